/- Functions and loops of the given program as Lean functions, and that the code comes to what they say: written by this session's own program; Lean checks it. -/
import Derived.Test.YtgmiokocipmbaaaZzPx0
import Derived.Test.YtgmiokocipmbaaaZzPx1
import Derived.Test.YtgmiokocipmbaaaZzPx2
import Derived.Test.YtgmiokocipmbaaaZzPx3
import Derived.Test.YtgmiokocipmbaaaZzPx7
namespace Go.Proofs.Ytgmiokocipmbaaa.P
open Go.RowKit Go.Proofs.YtgmiokocipmbaaaW.PrintWords Go.Proofs.YtgmiokocipmbaaaW.PrintLast Go.Proofs.YtgmiokocipmbaaaW.PrintMore
attribute [local go_sem] max2_int min2_int max_two min_two max_three min_three max_four min_four   -- for this text's walks alone
set_option linter.unusedVariables false
set_option linter.unusedSimpArgs false
attribute [local go_sem high] eqA26
/-! ### carillonlaw00_SameTlvs: function 24 -/
def carillonlaw00_SameTlvs.l0 : Nat → List (S26) → List (S26) → Int → Option (Bool)
  | 0, _, _, _ => none
  | k + 1, x0, x1, x5 => if x5 < (x0.length : Int) then (if 0 ≤ x5 then (if x5 < (x1.length : Int) then (if (!(((rd_T26 x0 x5).f0) == ((rd_T26 x1 x5).f0)) || (!((((rd_T26 x0 x5).f1).toList) == (((rd_T26 x1 x5).f1).toList)))) = true then (some false) else (carillonlaw00_SameTlvs.l0 k x0 x1 (wrap64 (x5 + 1)))) else (none)) else (none)) else (some true)
def carillonlaw00_SameTlvs.f (k : Nat) (l0 : List (S26)) (l1 : List (S26)) : Option (Bool) := if (l0.length : Int) = (l1.length : Int) then (carillonlaw00_SameTlvs.l0 k l0 l1 0) else (some false)
set_option maxHeartbeats 8000000 in
set_option maxRecDepth 100000 in
theorem carillonlaw00_SameTlvs.calls (k : Nat) (A0 : Option Addr) (c0 : Nat) (l0 : List (S26)) (A1 : Option Addr) (c1 : Nat) (l1 : List (S26)) (r : Bool) (w : World) (hr0 : Kd.C k26 w A0 l0.length l0) (hc0 : l0.length ≤ c0) (hr1 : Kd.C k26 w A1 l1.length l1) (hc1 : l1.length ≤ c1) (h : carillonlaw00_SameTlvs.f k l0 l1 = some r) :
    Calls Try.prog 24 #[.slice A0 l0.length c0, .slice A1 l1.length c1] w fun e w' => e = .returned (.bool r) ∧ Drawn0 w w' := by
  have hu26 := Try.underlying26
  have HR0 := Aside0.mk hr0
  have HC0 := Aside0.mk hc0
  clear hr0 hc0
  have HR1 := Aside0.mk hr1
  have HC1 := Aside0.mk hc1
  clear hr1 hc1
  have H : (if (l0.length : Int) = (l1.length : Int) then (carillonlaw00_SameTlvs.l0 k l0 l1 0) else (some false)) = some r := h
  clear h
  by_cases c3 : (l0.length : Int) = (l1.length : Int)
  · rw [if_pos c3] at H
    have c3b0 : ((l0.length : Int) == (l1.length : Int)) = true := beq_iff_eq.mpr c3
    have c3b1 : ((l0.length : Int) != (l1.length : Int)) = false := bne_eq_false_iff_eq.mpr c3
    have c3b2 : (l0.length == l1.length) = true := by first | simpa using c3 | (simp at c3 ⊢; omega)
    clear c3
    have H' := Aside0.mk H
    clear H
    go_enter Try.func24, Try.ntmps24
    go_wp2
    repeat (go_quiet (fail); try go_wp2)
    go_loopg [5] k (fun kq v5 w' => ∃ (x5_1 : Int), v5 = .int .i64 x5_1 ∧ Aside0 (carillonlaw00_SameTlvs.l0 kq l0 l1 x5_1 = some r) ∧ Aside0 (kq ≤ k) ∧ Drawn0 w w')
    case atStart => exact ⟨(0), (by first | rfl | (simp; done) | (simp [*]; done)), H', ⟨Nat.le_refl _⟩, by repeat (first | exact Drawn0.refl _ | apply Drawn0.step)⟩
    case round =>
      clear H'
      try clear c1
      try clear c2
      try clear p2
      try clear c3
      try clear c3b0
      try clear c3b1
      try clear c3b2
      obtain ⟨x5_1, rfl, HA, HK1, ⟨m1, rfl⟩⟩ := hrel
      cases gk with
      | zero => exact absurd HA.out (by simp [carillonlaw00_SameTlvs.l0])
      | succ k1 =>
        have H := HA.out
        clear HA
        simp only [carillonlaw00_SameTlvs.l0] at H
        by_cases c4 : x5_1 < (l0.length : Int)
        · rw [if_pos c4] at H
          have c4b0 : decide (x5_1 < (l0.length : Int)) = true := decide_eq_true c4
          clear c4
          by_cases c5 : 0 ≤ x5_1
          · rw [if_pos c5] at H
            have c5b0 : decide (0 ≤ x5_1) = true := decide_eq_true c5
            clear c5
            by_cases c6 : x5_1 < (l1.length : Int)
            · rw [if_pos c6] at H
              have c6b0 : decide (x5_1 < (l1.length : Int)) = true := decide_eq_true c6
              clear c6
              by_cases c7 : (!(((rd_T26 l0 x5_1).f0) == ((rd_T26 l1 x5_1).f0)) || (!((((rd_T26 l0 x5_1).f1).toList) == (((rd_T26 l1 x5_1).f1).toList)))) = true
              · rw [if_pos c7] at H
                have c7b0 : (!(((rd_T26 l0 x5_1).f0) == ((rd_T26 l1 x5_1).f0)) || (!((((rd_T26 l0 x5_1).f1).toList) == (((rd_T26 l1 x5_1).f1).toList)))) = true := c7
                clear c7
                obtain rfl := Option.some.inj H
                have p135 : 0 ≤ (x5_1 : Int) := of_decide_eq_true (by first | (with_reducible assumption) | assumption)
                have q135 : x5_1 < (l0.length : Int) := of_decide_eq_true (by first | (with_reducible assumption) | assumption)
                obtain ⟨ad135, e135, hx135_0, hx135_1⟩ := at_T26 HR0.out x5_1 p135 q135
                cases e135
                replace p135 := eq_true p135
                replace q135 := eq_true q135
                have p136 : 0 ≤ (x5_1 : Int) := of_decide_eq_true (by first | (with_reducible assumption) | assumption)
                have q136 : x5_1 < (l1.length : Int) := of_decide_eq_true (by first | (with_reducible assumption) | assumption)
                obtain ⟨ad136, e136, hx136_0, hx136_1⟩ := at_T26 HR1.out x5_1 p136 q136
                cases e136
                replace p136 := eq_true p136
                replace q136 := eq_true q136
                go_wp2
                repeat (go_quiet (fail); try go_wp2)
                all_goals
                  go_ret
                  exact ⟨by first | rfl | (simp; done) | (simp [*]; done), by repeat (first | exact Drawn0.refl _ | apply Drawn0.step)⟩
              · rw [if_neg c7] at H
                have c7b0 : (!(((rd_T26 l0 x5_1).f0) == ((rd_T26 l1 x5_1).f0)) || (!((((rd_T26 l0 x5_1).f1).toList) == (((rd_T26 l1 x5_1).f1).toList)))) = false := by simpa using c7
                clear c7
                have H' := Aside0.mk H
                clear H
                have p135 : 0 ≤ (x5_1 : Int) := of_decide_eq_true (by first | (with_reducible assumption) | assumption)
                have q135 : x5_1 < (l0.length : Int) := of_decide_eq_true (by first | (with_reducible assumption) | assumption)
                obtain ⟨ad135, e135, hx135_0, hx135_1⟩ := at_T26 HR0.out x5_1 p135 q135
                cases e135
                replace p135 := eq_true p135
                replace q135 := eq_true q135
                have p136 : 0 ≤ (x5_1 : Int) := of_decide_eq_true (by first | (with_reducible assumption) | assumption)
                have q136 : x5_1 < (l1.length : Int) := of_decide_eq_true (by first | (with_reducible assumption) | assumption)
                obtain ⟨ad136, e136, hx136_0, hx136_1⟩ := at_T26 HR1.out x5_1 p136 q136
                cases e136
                replace p136 := eq_true p136
                replace q136 := eq_true q136
                go_wp2
                repeat (go_quiet (fail); try go_wp2)
                go_roundg k1
                case measure => have := HK1.out; omega
                case rel => exact ⟨(wrap64 (x5_1 + 1)), (by first | rfl | (simp; done) | (simp [*]; done)), H', ⟨by have := HK1.out; omega⟩, by repeat (first | exact Drawn0.refl _ | apply Drawn0.step)⟩
            · rw [if_neg c6] at H
              exact absurd H (by simp)
          · rw [if_neg c5] at H
            exact absurd H (by simp)
        · rw [if_neg c4] at H
          have c4b0 : decide (x5_1 < (l0.length : Int)) = false := decide_eq_false c4
          clear c4
          obtain rfl := Option.some.inj H
          go_wp2
          repeat (go_quiet (fail); try go_wp2)
          all_goals
            go_ret
            exact ⟨by first | rfl | (simp; done) | (simp [*]; done), by repeat (first | exact Drawn0.refl _ | apply Drawn0.step)⟩
  · rw [if_neg c3] at H
    have c3b0 : ((l0.length : Int) == (l1.length : Int)) = false := beq_eq_false_iff_ne.mpr c3
    have c3b1 : ((l0.length : Int) != (l1.length : Int)) = true := bne_iff_ne.mpr c3
    have c3b2 : (l0.length == l1.length) = false := by first | simpa using c3 | (simp at c3 ⊢; omega)
    obtain rfl := Option.some.inj H
    go_enter Try.func24, Try.ntmps24
    go_wp2
    repeat (go_quiet (fail); try go_wp2)
    all_goals
      go_ret
      exact ⟨by first | rfl | (simp; done) | (simp [*]; done), by repeat (first | exact Drawn0.refl _ | apply Drawn0.step)⟩
/-! ### carillonlaw08_TlvGets: function 5: by our own printer -/
/-! ### carillonlaw00_Place: function 25 -/
def carillonlaw00_Place.f (a0 : Int) (a1 : Int) : Option (Int) := if a1 = 0 then (none) else (if (Int.tmod a0 a1) < 0 then (some (wrap64 ((Int.tmod a0 a1) + a1))) else (some (Int.tmod a0 a1)))
set_option maxHeartbeats 8000000 in
set_option maxRecDepth 100000 in
theorem carillonlaw00_Place.calls (a0 : Int) (a1 : Int) (r : Int) (w : World) (h : carillonlaw00_Place.f a0 a1 = some r) :
    Calls Try.prog 25 #[.int .i64 a0, .int .i64 a1] w fun e w' => e = .returned (.int .i64 r) ∧ Drawn0 w w' := by
  have H : (if a1 = 0 then (none) else (if (Int.tmod a0 a1) < 0 then (some (wrap64 ((Int.tmod a0 a1) + a1))) else (some (Int.tmod a0 a1)))) = some r := h
  clear h
  by_cases c3 : a1 = 0
  · rw [if_pos c3] at H
    exact absurd H (by simp)
  · rw [if_neg c3] at H
    have c3b0 : (a1 == 0) = false := beq_eq_false_iff_ne.mpr c3
    have c3b1 : (a1 != 0) = true := bne_iff_ne.mpr c3
    by_cases c4 : (Int.tmod a0 a1) < 0
    · rw [if_pos c4] at H
      have c4b0 : decide ((Int.tmod a0 a1) < 0) = true := decide_eq_true c4
      clear c4
      obtain rfl := Option.some.inj H
      go_enter Try.func25, Try.ntmps25
      go_wp2
      all_goals
        go_ret
        exact ⟨by first | rfl | (simp; done) | (simp [*]; done), by repeat (first | exact Drawn0.refl _ | apply Drawn0.step)⟩
    · rw [if_neg c4] at H
      have c4b0 : decide ((Int.tmod a0 a1) < 0) = false := decide_eq_false c4
      clear c4
      obtain rfl := Option.some.inj H
      go_enter Try.func25, Try.ntmps25
      go_wp2
      all_goals
        go_ret
        exact ⟨by first | rfl | (simp; done) | (simp [*]; done), by repeat (first | exact Drawn0.refl _ | apply Drawn0.step)⟩
/-! ### carillonlaw08_TlvCuts: function 6: by our own printer -/
def carillonlaw08_TlvCuts.l1 (k : Nat) : Nat → (List (S26)) → (List Int) → Int → Int → Int → Option (Bool)
  | 0, _, _, _, _, _ => none
  | n1 + 1, y1_0, y1_5, x1_7, x1_8, x1_9 => if x1_8 < (y1_0.length : Int) then (if 0 ≤ x1_8 then (if (wrap64 ((wrap64 (x1_9 + 4)) + (((rd_T26 y1_0 x1_8).f1).size : Int))) ≤ x1_7 then (carillonlaw08_TlvCuts.l1 k n1 y1_0 y1_5 x1_7 (wrap64 (x1_8 + 1)) (wrap64 ((wrap64 (x1_9 + 4)) + (((rd_T26 y1_0 x1_8).f1).size : Int)))) else (if 0 ≤ x1_7 then (if x1_7 ≤ (y1_5.length : Int) then ((tlv_Get.f k (y1_5.take (x1_7 : Int).toNat) 0).bind fun t1006 => (if x1_9 = x1_7 then (if t1006.2 = 0 then (if x1_8 ≤ (y1_0.length : Int) then ((carillonlaw00_SameTlvs.f k t1006.1 (y1_0.take (x1_8 : Int).toNat)).bind fun t1015 => (if t1015 = true then ((carillonlaw08_awake.f k ).bind fun t1016 => (some t1016)) else (some false))) else (none)) else (some false)) else (if t1006.2 = 2 then (if (t1006.1.length : Int) = 0 then ((carillonlaw08_awake.f k ).bind fun t1015 => (some t1015)) else (some false)) else (some false)))) else (none)) else (none))) else (none)) else (if 0 ≤ x1_7 then (if x1_7 ≤ (y1_5.length : Int) then ((tlv_Get.f k (y1_5.take (x1_7 : Int).toNat) 0).bind fun t1006 => (if x1_9 = x1_7 then (if t1006.2 = 0 then (if 0 ≤ x1_8 then (if x1_8 ≤ (y1_0.length : Int) then ((carillonlaw00_SameTlvs.f k t1006.1 (y1_0.take (x1_8 : Int).toNat)).bind fun t1015 => (if t1015 = true then ((carillonlaw08_awake.f k ).bind fun t1016 => (some t1016)) else (some false))) else (none)) else (none)) else (some false)) else (if t1006.2 = 2 then (if (t1006.1.length : Int) = 0 then ((carillonlaw08_awake.f k ).bind fun t1015 => (some t1015)) else (some false)) else (some false)))) else (none)) else (none))
def carillonlaw08_TlvCuts.f (k : Nat) (l0 : List (S26)) (a1 : Int) : Option (Bool) := (carillonlaw08_few.f k l0).bind fun t6 => (if t6 = true then ((tlv_Put.f k [] l0).bind fun t10 => (if t10.2 = true then ((carillonlaw00_Place.f a1 (wrap64 ((t10.1.length : Int) + 1))).bind fun t19 => (carillonlaw08_TlvCuts.l1 k k l0 t10.1 t19 0 0)) else ((carillonlaw08_awake.f k ).bind fun t19 => (some t19)))) else ((carillonlaw08_awake.f k ).bind fun t10 => (some t10)))
open Go.Proofs.Ytgmiokocipmbaaa.E in
theorem carillonlaw08_TlvCuts.flat26 : Flat k26 (fun x => [.int .i64 x.f0, .string x.f1]) := ⟨fun w x cs h => k26_open h, fun w base x => k26_mkM w base _ x⟩
open Go.Proofs.Ytgmiokocipmbaaa.E in
set_option maxHeartbeats 60000000 in
set_option maxRecDepth 100000 in
theorem carillonlaw08_TlvCuts.calls (k : Nat) (A0 : Option Addr) (cp0 : Nat) (l0 : List (S26)) (a1 : Int) (w : World) (HR0 : Kd.C k26 w A0 l0.length l0) (HC0 : l0.length ≤ cp0) (h : carillonlaw08_TlvCuts.f k l0 a1 = some true) :
    Calls Try.prog 6 #[.slice A0 l0.length cp0, .int .i64 a1] w fun e w' => e = .returned (.bool true) ∧ Below w.heap.size w w' := by
  have H := h
  clear h
  unfold carillonlaw08_TlvCuts.f at H
  obtain ⟨t6, At6, H⟩ := Option.bind_eq_some_iff.mp H
  by_cases c1 : t6 = true
  rotate_left
  · rw [if_neg c1] at H
    obtain ⟨t10, At10, H⟩ := Option.bind_eq_some_iff.mp H
    have hret := Option.some.inj H
    clear H
    refine calls_of_wp (fn := Try.f6) (by kernel_rfl) rfl ?_
    have hS := St.enter #[.slice A0 l0.length cp0, .int .i64 a1] 89 (by simp) [(0, .slice A0 l0.length cp0), (1, .int .i64 a1)] (by simp)
    have HB0 := Below.refl w.heap.size w
    refine wp_seq_k (fun K1 hK1 => ?_)
    refine reg_seq (N := 89) (bs := [(0, .slice A0 l0.length cp0), (1, .int .i64 a1)]) (I := fun x => Below w.heap.size w x) (ps := [VB false]) (by kernel_rfl) ?_ ?_ rfl hS HB0 ?_ ?_
    · exact fun x y hI hb => below_step hI hb
    · exact .v (.nil)
    · refine .on rfl (fun a w hS hI hp => does_val (x_assign rfl (rfl)) rfl) ?_
      exact .nil
    clear hS
    intro at2 w3 hS hI hp
    have hBw3_w := hI
    have hBw3_w3 := Below.refl w3.heap.size w3
    clear hp hI
    refine hK1 _ _ ?_
    (try clear hK1 K1)
    refine wp_seq_k (fun K4 hK4 => ?_)
    refine wp_seq_k (fun K5 hK5 => ?_)
    refine reg_seq (N := 89) (bs := [(0, .slice A0 l0.length cp0), (1, .int .i64 a1)]) (I := fun x => Below w.heap.size w x ∧ Below w3.heap.size w3 x) (ps := [IsV (.slice A0 l0.length cp0), VB t6, VB (!t6)]) (by kernel_rfl) ?_ ?_ rfl hS ⟨hBw3_w, hBw3_w3⟩ ?_ ?_
    · exact fun x y hI hb => ⟨below_step hI.1 hb, below_step hI.2 hb⟩
    · exact .v (.v (.v (.nil)))
    · refine .ms 0 rfl rfl rfl ?_
      refine .on rfl (fun a w hS hI hp => does_call (by kernel_rfl) (ar1 (hp.V 0 rfl rfl)) ((carillonlaw08_few.calls k _ _ l0 t6 _ (Kd.C_below HR0 hI.1) HC0 At6).mono fun _ _ h => ⟨_, h.1, h.2.below, rfl⟩)) ?_
      refine .on rfl (fun a w hS hI hp => does_val (x_not rfl (hp.V 1 rfl rfl)) rfl) ?_
      exact .nil
    clear hS
    intro at7 w8 hS hI hp
    have hBw8_w := hI.1
    have hBw8_w3 := hI.2
    have hv14 : sl _ 14 = .bool (!t6) := hp 2 (by decide)
    have hBw8_w8 := Below.refl w8.heap.size w8
    have hS := hS.cons hv14
    clear hp hI hv14
    refine hK5 _ _ ?_
    (try clear hK5 K5)
    refine wp_cond_true ((hS.get 0 rfl).trans (bT (congrArg (!·) (Bool.eq_false_iff.2 c1)))) ?_
    refine wp_seq_k (fun K9 hK9 => ?_)
    refine reg_seq (N := 89) (bs := [(14, .bool (!t6)), (0, .slice A0 l0.length cp0), (1, .int .i64 a1)]) (I := fun x => Below w.heap.size w x ∧ Below w8.heap.size w8 x) (ps := [VB t10, VB t10]) (by kernel_rfl) ?_ ?_ rfl hS ⟨hBw8_w, hBw8_w8⟩ ?_ ?_
    · exact fun x y hI hb => ⟨below_step hI.1 hb, below_step hI.2 hb⟩
    · exact .v (.v (.nil))
    · refine .on rfl (fun a w hS hI hp => does_call (by kernel_rfl) rfl ((carillonlaw08_awake.calls k  t10 _  At10).mono fun _ _ h => ⟨_, h.1, h.2, rfl⟩)) ?_
      refine .asg 0 rfl rfl rfl rfl ?_
      exact .nil
    clear hS
    intro at11 w12 hS hI hp
    have hBw12_w := hI.1
    have hBw12_w8 := hI.2
    replace hS := hS.nil
    have hv4 : sl _ 4 = .bool t10 := hp 1 (by decide)
    have hBw12_w12 := Below.refl w12.heap.size w12
    have hS := hS.cons hv4
    clear hp hI hv4
    refine hK9 _ _ ?_
    (try clear hK9 K9)
    refine wp_ret ?_
    (try simp only [Exit.then, Exit.inBlock, Exit.jump, Exit.noGoto])
    exact bodyPost_ret (v := .bool true) (by rw [results_tmp rfl]; exact congrArg (Result.ok · _) ((hS.get 0 rfl).trans (congrArg Value.bool hret))) hS.nodef ⟨rfl, hBw12_w⟩
  rw [if_pos c1] at H
  obtain ⟨t10, At10, H⟩ := Option.bind_eq_some_iff.mp H
  obtain ⟨t10_1, t10_2⟩ := t10
  (try dsimp only at H)
  by_cases c2 : t10_2 = true
  rotate_left
  · rw [if_neg c2] at H
    obtain ⟨t19, At19, H⟩ := Option.bind_eq_some_iff.mp H
    have hret := Option.some.inj H
    clear H
    refine calls_of_wp (fn := Try.f6) (by kernel_rfl) rfl ?_
    have hS := St.enter #[.slice A0 l0.length cp0, .int .i64 a1] 89 (by simp) [(0, .slice A0 l0.length cp0), (1, .int .i64 a1)] (by simp)
    have HB0 := Below.refl w.heap.size w
    refine wp_seq_k (fun K1 hK1 => ?_)
    refine reg_seq (N := 89) (bs := [(0, .slice A0 l0.length cp0), (1, .int .i64 a1)]) (I := fun x => Below w.heap.size w x) (ps := [VB false]) (by kernel_rfl) ?_ ?_ rfl hS HB0 ?_ ?_
    · exact fun x y hI hb => below_step hI hb
    · exact .v (.nil)
    · refine .on rfl (fun a w hS hI hp => does_val (x_assign rfl (rfl)) rfl) ?_
      exact .nil
    clear hS
    intro at2 w3 hS hI hp
    have hBw3_w := hI
    have hBw3_w3 := Below.refl w3.heap.size w3
    clear hp hI
    refine hK1 _ _ ?_
    (try clear hK1 K1)
    refine wp_seq_k (fun K4 hK4 => ?_)
    refine wp_seq_k (fun K5 hK5 => ?_)
    refine reg_seq (N := 89) (bs := [(0, .slice A0 l0.length cp0), (1, .int .i64 a1)]) (I := fun x => Below w.heap.size w x ∧ Below w3.heap.size w3 x) (ps := [IsV (.slice A0 l0.length cp0), VB t6, VB (!t6)]) (by kernel_rfl) ?_ ?_ rfl hS ⟨hBw3_w, hBw3_w3⟩ ?_ ?_
    · exact fun x y hI hb => ⟨below_step hI.1 hb, below_step hI.2 hb⟩
    · exact .v (.v (.v (.nil)))
    · refine .ms 0 rfl rfl rfl ?_
      refine .on rfl (fun a w hS hI hp => does_call (by kernel_rfl) (ar1 (hp.V 0 rfl rfl)) ((carillonlaw08_few.calls k _ _ l0 t6 _ (Kd.C_below HR0 hI.1) HC0 At6).mono fun _ _ h => ⟨_, h.1, h.2.below, rfl⟩)) ?_
      refine .on rfl (fun a w hS hI hp => does_val (x_not rfl (hp.V 1 rfl rfl)) rfl) ?_
      exact .nil
    clear hS
    intro at7 w8 hS hI hp
    have hBw8_w := hI.1
    have hBw8_w3 := hI.2
    have hv14 : sl _ 14 = .bool (!t6) := hp 2 (by decide)
    have hBw8_w8 := Below.refl w8.heap.size w8
    have hS := hS.cons hv14
    clear hp hI hv14
    refine hK5 _ _ ?_
    (try clear hK5 K5)
    refine wp_cond_false ((hS.get 0 rfl).trans (bF (congrArg (!·) c1))) ?_
    refine wp_skip ?_
    refine hK4 _ _ ?_
    (try clear hK4 K4)
    refine wp_seq_k (fun K9 hK9 => ?_)
    refine reg_seq (N := 89) (bs := [(14, .bool (!t6)), (0, .slice A0 l0.length cp0), (1, .int .i64 a1)]) (I := fun x => Below w.heap.size w x ∧ Below w8.heap.size w8 x) (ps := [IsV (.slice A0 l0.length cp0), IsT (fun v0_ => #[v0_, .bool t10_2]) (IsC (Kd.int .u8) t10_1), IsT (fun v0_ => #[v0_, .bool t10_2]) (IsC (Kd.int .u8) t10_1), IsC (Kd.int .u8) t10_1, VB t10_2, IsC (Kd.int .u8) t10_1, VB t10_2]) (by kernel_rfl) ?_ ?_ rfl hS ⟨hBw8_w, hBw8_w8⟩ ?_ ?_
    · exact fun x y hI hb => ⟨below_step hI.1 hb, below_step hI.2 hb⟩
    · exact .v (.cons (Stays.t _ (Stays.c _ _)) (.cons (Stays.t _ (Stays.c _ _)) (.cons (Stays.c _ _) (.v (.cons (Stays.c _ _) (.v (.nil)))))))
    · refine .ms 1 rfl rfl rfl ?_
      refine .on rfl (fun a w hS hI hp => does_call (by kernel_rfl) (ar2 (rfl) (hp.V 0 rfl rfl)) ((tlv_Put.calls k _ _ [] _ _ l0 t10_1 t10_2 _ (Kd.C_nil _ _) (Nat.le_refl _) (Kd.C_below HR0 hI.1) HC0 At10).mono fun _ _ h => h.elim fun v0 h => ⟨_, h.1, h.2.2, v0, rfl, h.2.1⟩)) ?_
      refine .on rfl (fun a w hS hI hp => does_val (x_move rfl rfl) (hp.V 1 rfl rfl)) ?_
      refine .on rfl (fun a w hS hI hp => (hp.V 2 rfl rfl).elim fun v0 h0 => does_val (x_extract rfl h0.1 rfl) h0.2) ?_
      refine .on rfl (fun a w hS hI hp => (hp.V 2 rfl rfl).elim fun v0 h0 => does_val (x_extract rfl h0.1 rfl) rfl) ?_
      refine .on rfl (fun a w hS hI hp => does_val (x_assign rfl rfl) (hp.V 3 rfl rfl)) ?_
      refine .asg 4 rfl rfl rfl rfl ?_
      exact .nil
    clear hS
    intro at11 w12 hS hI hp
    have hBw12_w := hI.1
    have hBw12_w8 := hI.2
    replace hS := ((hS.nil).cons (hS.get 2 rfl)).cons (hS.get 1 rfl)
    obtain ⟨A13, C13, hv5, hl13, hc13⟩ := (show IsC (Kd.int .u8) t10_1 (sl _ 5) w12 from hp 5 (by decide))
    have hv6 : sl _ 6 = .bool t10_2 := hp 6 (by decide)
    have hBw12_w12 := Below.refl w12.heap.size w12
    have hS := hS.cons hv5
    have hS := hS.cons hv6
    clear hp hI hv5 hv6
    refine hK9 _ _ ?_
    (try clear hK9 K9)
    refine wp_seq_k (fun K14 hK14 => ?_)
    refine wp_seq_k (fun K15 hK15 => ?_)
    refine reg_seq (N := 89) (bs := [(6, .bool t10_2), (5, .slice A13 t10_1.length C13), (0, .slice A0 l0.length cp0), (1, .int .i64 a1)]) (I := fun x => Below w.heap.size w x ∧ Below w12.heap.size w12 x) (ps := [VB t10_2, VB (!t10_2)]) (by kernel_rfl) ?_ ?_ rfl hS ⟨hBw12_w, hBw12_w12⟩ ?_ ?_
    · exact fun x y hI hb => ⟨below_step hI.1 hb, below_step hI.2 hb⟩
    · exact .v (.v (.nil))
    · refine .ms 0 rfl rfl rfl ?_
      refine .on rfl (fun a w hS hI hp => does_val (x_not rfl (hp.V 0 rfl rfl)) rfl) ?_
      exact .nil
    clear hS
    intro at16 w17 hS hI hp
    have hBw17_w := hI.1
    have hBw17_w12 := hI.2
    replace hS := (((hS.nil).cons (hS.get 3 rfl)).cons (hS.get 2 rfl)).cons (hS.get 1 rfl)
    have hv22 : sl _ 22 = .bool (!t10_2) := hp 1 (by decide)
    have hBw17_w17 := Below.refl w17.heap.size w17
    have hS := hS.cons hv22
    clear hp hI hv22
    refine hK15 _ _ ?_
    (try clear hK15 K15)
    refine wp_cond_true ((hS.get 0 rfl).trans (bT (congrArg (!·) (Bool.eq_false_iff.2 c2)))) ?_
    refine wp_seq_k (fun K18 hK18 => ?_)
    refine reg_seq (N := 89) (bs := [(22, .bool (!t10_2)), (5, .slice A13 t10_1.length C13), (0, .slice A0 l0.length cp0), (1, .int .i64 a1)]) (I := fun x => Below w.heap.size w x ∧ Below w12.heap.size w12 x ∧ Below w17.heap.size w17 x) (ps := [VB t19, VB t19]) (by kernel_rfl) ?_ ?_ rfl hS ⟨hBw17_w, hBw17_w12, hBw17_w17⟩ ?_ ?_
    · exact fun x y hI hb => ⟨below_step hI.1 hb, below_step hI.2.1 hb, below_step hI.2.2 hb⟩
    · exact .v (.v (.nil))
    · refine .on rfl (fun a w hS hI hp => does_call (by kernel_rfl) rfl ((carillonlaw08_awake.calls k  t19 _  At19).mono fun _ _ h => ⟨_, h.1, h.2, rfl⟩)) ?_
      refine .asg 0 rfl rfl rfl rfl ?_
      exact .nil
    clear hS
    intro at20 w21 hS hI hp
    have hBw21_w := hI.1
    have hBw21_w12 := hI.2.1
    have hBw21_w17 := hI.2.2
    replace hS := hS.nil
    have hv4 : sl _ 4 = .bool t19 := hp 1 (by decide)
    have hBw21_w21 := Below.refl w21.heap.size w21
    have hS := hS.cons hv4
    clear hp hI hv4
    refine hK18 _ _ ?_
    (try clear hK18 K18)
    refine wp_ret ?_
    (try simp only [Exit.then, Exit.inBlock, Exit.jump, Exit.noGoto])
    exact bodyPost_ret (v := .bool true) (by rw [results_tmp rfl]; exact congrArg (Result.ok · _) ((hS.get 0 rfl).trans (congrArg Value.bool hret))) hS.nodef ⟨rfl, hBw21_w⟩
  rw [if_pos c2] at H
  obtain ⟨t19, At19, H⟩ := Option.bind_eq_some_iff.mp H
  refine calls_of_wp (fn := Try.f6) (by kernel_rfl) rfl ?_
  have hS := St.enter #[.slice A0 l0.length cp0, .int .i64 a1] 89 (by simp) [(0, .slice A0 l0.length cp0), (1, .int .i64 a1)] (by simp)
  have HB0 := Below.refl w.heap.size w
  refine wp_seq_k (fun K1 hK1 => ?_)
  refine reg_seq (N := 89) (bs := [(0, .slice A0 l0.length cp0), (1, .int .i64 a1)]) (I := fun x => Below w.heap.size w x) (ps := [VB false]) (by kernel_rfl) ?_ ?_ rfl hS HB0 ?_ ?_
  · exact fun x y hI hb => below_step hI hb
  · exact .v (.nil)
  · refine .on rfl (fun a w hS hI hp => does_val (x_assign rfl (rfl)) rfl) ?_
    exact .nil
  clear hS
  intro at2 w3 hS hI hp
  have hBw3_w := hI
  have hBw3_w3 := Below.refl w3.heap.size w3
  clear hp hI
  refine hK1 _ _ ?_
  (try clear hK1 K1)
  refine wp_seq_k (fun K4 hK4 => ?_)
  refine wp_seq_k (fun K5 hK5 => ?_)
  refine reg_seq (N := 89) (bs := [(0, .slice A0 l0.length cp0), (1, .int .i64 a1)]) (I := fun x => Below w.heap.size w x ∧ Below w3.heap.size w3 x) (ps := [IsV (.slice A0 l0.length cp0), VB t6, VB (!t6)]) (by kernel_rfl) ?_ ?_ rfl hS ⟨hBw3_w, hBw3_w3⟩ ?_ ?_
  · exact fun x y hI hb => ⟨below_step hI.1 hb, below_step hI.2 hb⟩
  · exact .v (.v (.v (.nil)))
  · refine .ms 0 rfl rfl rfl ?_
    refine .on rfl (fun a w hS hI hp => does_call (by kernel_rfl) (ar1 (hp.V 0 rfl rfl)) ((carillonlaw08_few.calls k _ _ l0 t6 _ (Kd.C_below HR0 hI.1) HC0 At6).mono fun _ _ h => ⟨_, h.1, h.2.below, rfl⟩)) ?_
    refine .on rfl (fun a w hS hI hp => does_val (x_not rfl (hp.V 1 rfl rfl)) rfl) ?_
    exact .nil
  clear hS
  intro at7 w8 hS hI hp
  have hBw8_w := hI.1
  have hBw8_w3 := hI.2
  have hv14 : sl _ 14 = .bool (!t6) := hp 2 (by decide)
  have hBw8_w8 := Below.refl w8.heap.size w8
  have hS := hS.cons hv14
  clear hp hI hv14
  refine hK5 _ _ ?_
  (try clear hK5 K5)
  refine wp_cond_false ((hS.get 0 rfl).trans (bF (congrArg (!·) c1))) ?_
  refine wp_skip ?_
  refine hK4 _ _ ?_
  (try clear hK4 K4)
  refine wp_seq_k (fun K9 hK9 => ?_)
  refine reg_seq (N := 89) (bs := [(14, .bool (!t6)), (0, .slice A0 l0.length cp0), (1, .int .i64 a1)]) (I := fun x => Below w.heap.size w x ∧ Below w8.heap.size w8 x) (ps := [IsV (.slice A0 l0.length cp0), IsT (fun v0_ => #[v0_, .bool t10_2]) (IsC (Kd.int .u8) t10_1), IsT (fun v0_ => #[v0_, .bool t10_2]) (IsC (Kd.int .u8) t10_1), IsC (Kd.int .u8) t10_1, VB t10_2, IsC (Kd.int .u8) t10_1, VB t10_2]) (by kernel_rfl) ?_ ?_ rfl hS ⟨hBw8_w, hBw8_w8⟩ ?_ ?_
  · exact fun x y hI hb => ⟨below_step hI.1 hb, below_step hI.2 hb⟩
  · exact .v (.cons (Stays.t _ (Stays.c _ _)) (.cons (Stays.t _ (Stays.c _ _)) (.cons (Stays.c _ _) (.v (.cons (Stays.c _ _) (.v (.nil)))))))
  · refine .ms 1 rfl rfl rfl ?_
    refine .on rfl (fun a w hS hI hp => does_call (by kernel_rfl) (ar2 (rfl) (hp.V 0 rfl rfl)) ((tlv_Put.calls k _ _ [] _ _ l0 t10_1 t10_2 _ (Kd.C_nil _ _) (Nat.le_refl _) (Kd.C_below HR0 hI.1) HC0 At10).mono fun _ _ h => h.elim fun v0 h => ⟨_, h.1, h.2.2, v0, rfl, h.2.1⟩)) ?_
    refine .on rfl (fun a w hS hI hp => does_val (x_move rfl rfl) (hp.V 1 rfl rfl)) ?_
    refine .on rfl (fun a w hS hI hp => (hp.V 2 rfl rfl).elim fun v0 h0 => does_val (x_extract rfl h0.1 rfl) h0.2) ?_
    refine .on rfl (fun a w hS hI hp => (hp.V 2 rfl rfl).elim fun v0 h0 => does_val (x_extract rfl h0.1 rfl) rfl) ?_
    refine .on rfl (fun a w hS hI hp => does_val (x_assign rfl rfl) (hp.V 3 rfl rfl)) ?_
    refine .asg 4 rfl rfl rfl rfl ?_
    exact .nil
  clear hS
  intro at11 w12 hS hI hp
  have hBw12_w := hI.1
  have hBw12_w8 := hI.2
  replace hS := ((hS.nil).cons (hS.get 2 rfl)).cons (hS.get 1 rfl)
  obtain ⟨A13, C13, hv5, hl13, hc13⟩ := (show IsC (Kd.int .u8) t10_1 (sl _ 5) w12 from hp 5 (by decide))
  have hv6 : sl _ 6 = .bool t10_2 := hp 6 (by decide)
  have hBw12_w12 := Below.refl w12.heap.size w12
  have hS := hS.cons hv5
  have hS := hS.cons hv6
  clear hp hI hv5 hv6
  refine hK9 _ _ ?_
  (try clear hK9 K9)
  refine wp_seq_k (fun K14 hK14 => ?_)
  refine wp_seq_k (fun K15 hK15 => ?_)
  refine reg_seq (N := 89) (bs := [(6, .bool t10_2), (5, .slice A13 t10_1.length C13), (0, .slice A0 l0.length cp0), (1, .int .i64 a1)]) (I := fun x => Below w.heap.size w x ∧ Below w12.heap.size w12 x) (ps := [VB t10_2, VB (!t10_2)]) (by kernel_rfl) ?_ ?_ rfl hS ⟨hBw12_w, hBw12_w12⟩ ?_ ?_
  · exact fun x y hI hb => ⟨below_step hI.1 hb, below_step hI.2 hb⟩
  · exact .v (.v (.nil))
  · refine .ms 0 rfl rfl rfl ?_
    refine .on rfl (fun a w hS hI hp => does_val (x_not rfl (hp.V 0 rfl rfl)) rfl) ?_
    exact .nil
  clear hS
  intro at16 w17 hS hI hp
  have hBw17_w := hI.1
  have hBw17_w12 := hI.2
  replace hS := (((hS.nil).cons (hS.get 3 rfl)).cons (hS.get 2 rfl)).cons (hS.get 1 rfl)
  have hv22 : sl _ 22 = .bool (!t10_2) := hp 1 (by decide)
  have hBw17_w17 := Below.refl w17.heap.size w17
  have hS := hS.cons hv22
  clear hp hI hv22
  refine hK15 _ _ ?_
  (try clear hK15 K15)
  refine wp_cond_false ((hS.get 0 rfl).trans (bF (congrArg (!·) c2))) ?_
  refine wp_skip ?_
  refine hK14 _ _ ?_
  (try clear hK14 K14)
  refine wp_seq_k (fun K18 hK18 => ?_)
  refine reg_seq (N := 89) (bs := [(22, .bool (!t10_2)), (5, .slice A13 t10_1.length C13), (0, .slice A0 l0.length cp0), (1, .int .i64 a1)]) (I := fun x => Below w.heap.size w x ∧ Below w12.heap.size w12 x ∧ Below w17.heap.size w17 x) (ps := [VI a1, IsV (.slice A13 t10_1.length C13), VI (t10_1.length : Int), VI (wrap64 ((t10_1.length : Int) + 1)), VI t19, VI t19]) (by kernel_rfl) ?_ ?_ rfl hS ⟨hBw17_w, hBw17_w12, hBw17_w17⟩ ?_ ?_
  · exact fun x y hI hb => ⟨below_step hI.1 hb, below_step hI.2.1 hb, below_step hI.2.2 hb⟩
  · exact .v (.v (.v (.v (.v (.v (.nil))))))
  · refine .ms 3 rfl rfl rfl ?_
    refine .ms 1 rfl rfl rfl ?_
    refine .on rfl (fun a w hS hI hp => does_val (x_len (e := 5) rfl (by kernel_rfl) (hp.V 1 rfl rfl)) rfl) ?_
    refine .on rfl (fun a w hS hI hp => does_val (x_bin rfl (hp.V 2 rfl rfl) (rfl) (b_add _ _ _ _ _)) rfl) ?_
    refine .on rfl (fun a w hS hI hp => does_call (by kernel_rfl) (ar2 (hp.V 0 rfl rfl) (hp.V 3 rfl rfl)) ((carillonlaw00_Place.calls a1 (wrap64 ((t10_1.length : Int) + 1)) t19 _  At19).mono fun _ _ h => ⟨_, h.1, h.2.below, rfl⟩)) ?_
    refine .asg 4 rfl rfl rfl rfl ?_
    exact .nil
  clear hS
  intro at20 w21 hS hI hp
  have hBw21_w := hI.1
  have hBw21_w12 := hI.2.1
  have hBw21_w17 := hI.2.2
  replace hS := ((hS.nil).cons (hS.get 2 rfl)).cons (hS.get 1 rfl)
  have hv7 : sl _ 7 = .int .i64 t19 := hp 5 (by decide)
  have hBw21_w21 := Below.refl w21.heap.size w21
  have hS := hS.cons hv7
  clear hp hI hv7
  refine hK18 _ _ ?_
  (try clear hK18 K18)
  refine wp_seq_k (fun K22 hK22 => ?_)
  refine reg_seq (N := 89) (bs := [(7, .int .i64 t19), (5, .slice A13 t10_1.length C13), (0, .slice A0 l0.length cp0)]) (I := fun x => Below w.heap.size w x ∧ Below w12.heap.size w12 x ∧ Below w21.heap.size w21 x) (ps := [VI 0, VI 0]) (by kernel_rfl) ?_ ?_ rfl hS ⟨hBw21_w, hBw21_w12, hBw21_w21⟩ ?_ ?_
  · exact fun x y hI hb => ⟨below_step hI.1 hb, below_step hI.2.1 hb, below_step hI.2.2 hb⟩
  · exact .v (.v (.nil))
  · refine .on rfl (fun a w hS hI hp => does_val (x_assign rfl (rfl)) rfl) ?_
    refine .on rfl (fun a w hS hI hp => does_val (x_assign rfl (rfl)) rfl) ?_
    exact .nil
  clear hS
  intro at23 w24 hS hI hp
  have hBw24_w := hI.1
  have hBw24_w12 := hI.2.1
  have hBw24_w21 := hI.2.2
  have hv8 : sl _ 8 = .int .i64 0 := hp 0 (by decide)
  have hv9 : sl _ 9 = .int .i64 0 := hp 1 (by decide)
  have hBw24_w24 := Below.refl w24.heap.size w24
  have hS := hS.cons hv8
  have hS := hS.cons hv9
  clear hp hI hv8 hv9
  refine hK22 _ _ ?_
  (try clear hK22 K22)
  refine wp_seq_k (fun K25 hK25 => ?_)
  refine wp_block ?_
  replace hS := (((((hS.nil).cons (hS.get 0 rfl)).cons (hS.get 1 rfl)).cons (hS.get 2 rfl)).cons (hS.get 3 rfl)).cons (hS.get 4 rfl)
  refine wp_loop_ghost (fun n_ a_ wL1 => ∃ (y1_0 : List (S26)) (AL1_0 : Option Addr) (CL1_0 : Nat) (y1_5 : List Int) (AL1_5 : Option Addr) (CL1_5 : Nat) (x1_7 x1_8 x1_9 : Int), carillonlaw08_TlvCuts.l1 k n_ y1_0 y1_5 x1_7 x1_8 x1_9 = some true ∧ St 89 [(0, .slice AL1_0 y1_0.length CL1_0), (5, .slice AL1_5 y1_5.length CL1_5), (7, .int .i64 x1_7), (8, .int .i64 x1_8), (9, .int .i64 x1_9)] a_ ∧ Below w.heap.size w wL1 ∧ y1_0.length ≤ CL1_0 ∧ Kd.C k26 w AL1_0 y1_0.length y1_0 ∧ y1_5.length ≤ CL1_5 ∧ Kd.C (Kd.int .u8) wL1 AL1_5 y1_5.length y1_5) k ⟨l0, A0, cp0, t10_1, A13, C13, t19, 0, 0, H, hS, hBw24_w, HC0, (HR0), hl13, (Kd.C_below hc13 hBw24_w12)⟩ ?_
  clear H hS
  rintro n1 aL1 wL1 ⟨y1_0, AL1_0, CL1_0, y1_5, AL1_5, CL1_5, x1_7, x1_8, x1_9, H, hS, hBwL1_w, hr1_0, hcL1_0, hr1_5, hcL1_5⟩
  rcases n1 with _ | n1
  · exact absurd H (by simp [carillonlaw08_TlvCuts.l1])
  rw [carillonlaw08_TlvCuts.l1] at H
  (try dsimp only at H)
  by_cases c3 : x1_8 < (y1_0.length : Int)
  rotate_left
  · rw [if_neg c3] at H
    by_cases c4 : 0 ≤ x1_7
    rotate_left
    · rw [if_neg c4] at H
      exact absurd H (by simp)
    rw [if_pos c4] at H
    by_cases c5 : x1_7 ≤ (y1_5.length : Int)
    rotate_left
    · rw [if_neg c5] at H
      exact absurd H (by simp)
    rw [if_pos c5] at H
    obtain ⟨t1006, At1006, H⟩ := Option.bind_eq_some_iff.mp H
    obtain ⟨t1006_1, t1006_2⟩ := t1006
    (try dsimp only at H)
    by_cases c6 : x1_9 = x1_7
    rotate_left
    · rw [if_neg c6] at H
      by_cases c7 : t1006_2 = 2
      rotate_left
      · rw [if_neg c7] at H
        exact absurd H (by simp)
      rw [if_pos c7] at H
      by_cases c8 : (t1006_1.length : Int) = 0
      rotate_left
      · rw [if_neg c8] at H
        exact absurd H (by simp)
      rw [if_pos c8] at H
      obtain ⟨t1015, At1015, H⟩ := Option.bind_eq_some_iff.mp H
      have hret := Option.some.inj H
      clear H
      have hBwL1_wL1 := Below.refl wL1.heap.size wL1
      refine wp_seq_k (fun K1001 hK1001 => ?_)
      refine wp_seq_k (fun K1002 hK1002 => ?_)
      refine reg_seq (N := 89) (bs := [(0, .slice AL1_0 y1_0.length CL1_0), (5, .slice AL1_5 y1_5.length CL1_5), (7, .int .i64 x1_7), (8, .int .i64 x1_8), (9, .int .i64 x1_9)]) (I := fun x => Below w.heap.size w x ∧ Below wL1.heap.size wL1 x) (ps := [VI x1_8, IsV (.slice AL1_0 y1_0.length CL1_0), VI (y1_0.length : Int), VB (decide (x1_8 < (y1_0.length : Int))), VB (decide (x1_8 < (y1_0.length : Int))), VU, VU, VU, VU, VU, VU, VU, VU, VU, VU, VU, VB false]) (by kernel_rfl) ?_ ?_ rfl hS ⟨hBwL1_w, hBwL1_wL1⟩ ?_ ?_
      · exact fun x y hI hb => ⟨below_step hI.1 hb, below_step hI.2 hb⟩
      · exact .v (.v (.v (.v (.v (.v (.v (.v (.v (.v (.v (.v (.v (.v (.v (.v (.v (.nil)))))))))))))))))
      · refine .ms 3 rfl rfl rfl ?_
        refine .ms 0 rfl rfl rfl ?_
        refine .on rfl (fun a w hS hI hp => does_val (x_len (e := 26) rfl (by kernel_rfl) (hp.V 1 rfl rfl)) rfl) ?_
        refine .on rfl (fun a w hS hI hp => does_val (x_bin rfl (hp.V 0 rfl rfl) (hp.V 2 rfl rfl) (b_lss _ _ _ _ _ _)) rfl) ?_
        refine .mv 3 rfl rfl rfl rfl ?_
        iterate 11 refine .sn 4 33 rfl rfl rfl rfl rfl ((decide_eq_false c3)) ?_
        refine .pf 4 rfl rfl rfl rfl ((decide_eq_false c3)) (fun _ => rfl) ?_
        exact .nil
      clear hS
      intro at1003 w1004 hS hI hp
      have hBw1004_w := hI.1
      have hBw1004_wL1 := hI.2
      have hv45 : sl _ 45 = .bool false := hp 16 (by decide)
      have hBw1004_w1004 := Below.refl w1004.heap.size w1004
      have hS := hS.cons hv45
      clear hp hI hv45
      refine hK1002 _ _ ?_
      (try clear hK1002 K1002)
      refine wp_cond_false ((hS.get 0 rfl).trans (bF rfl)) ?_
      refine wp_exit ?_
      (try simp only [Exit.then, Exit.inBlock, reduceIte])
      refine hK25 _ _ ?_
      (try clear hK25 K25)
      refine wp_seq_k (fun K1005 hK1005 => ?_)
      refine reg_seq (N := 89) (bs := [(45, .bool false), (0, .slice AL1_0 y1_0.length CL1_0), (5, .slice AL1_5 y1_5.length CL1_5), (7, .int .i64 x1_7), (8, .int .i64 x1_8), (9, .int .i64 x1_9)]) (I := fun x => Below w.heap.size w x ∧ Below wL1.heap.size wL1 x ∧ Below w1004.heap.size w1004 x) (ps := [IsV (.slice AL1_5 y1_5.length CL1_5), VI x1_7, IsV (.slice AL1_5 ((y1_5.take (x1_7 : Int).toNat).length) CL1_5), IsT (fun v0_ => #[v0_, .int .i64 t1006_2]) (IsR k26 26 w1004.heap.size t1006_1), IsT (fun v0_ => #[v0_, .int .i64 t1006_2]) (IsR k26 26 w1004.heap.size t1006_1), IsR k26 26 w1004.heap.size t1006_1, VI t1006_2, IsR k26 26 w1004.heap.size t1006_1, VI t1006_2]) (by kernel_rfl) ?_ ?_ rfl hS ⟨hBw1004_w, hBw1004_wL1, hBw1004_w1004⟩ ?_ ?_
      · exact fun x y hI hb => ⟨below_step hI.1 hb, below_step hI.2.1 hb, below_step hI.2.2 hb⟩
      · exact .v (.v (.v (.cons (Stays.t _ (Stays.r _ _ _ _)) (.cons (Stays.t _ (Stays.r _ _ _ _)) (.cons (Stays.r _ _ _ _) (.v (.cons (Stays.r _ _ _ _) (.v (.nil)))))))))
      · refine .ms 2 rfl rfl rfl ?_
        refine .ms 3 rfl rfl rfl ?_
        refine .on rfl (fun a w hS hI hp => does_val (x_cuthi rfl (e := 5) (xs := y1_5) (by kernel_rfl) (by kernel_rfl) (hp.V 0 rfl rfl) (hp.V 1 rfl rfl) c4 c5 hr1_5) rfl) ?_
        refine .on rfl (fun a w hS hI hp => does_call (by kernel_rfl) (ar2 (hp.V 2 rfl rfl) (rfl)) ((tlv_Get.calls k _ _ (y1_5.take (x1_7 : Int).toNat) 0 t1006_1 t1006_2 _ (Kd.C_take (m := (x1_7 : Int).toNat) (Kd.C_below hcL1_5 hI.2.1) (by have := c5; omega)) (Nat.le_trans (List.length_take_le' _ _) hr1_5) At1006).mono fun _ _ h => h.elim fun v0 h => ⟨_, h.1, h.2.2, v0, rfl, Kd.R_lower h.2.1 hI.2.2.size⟩)) ?_
        refine .on rfl (fun a w hS hI hp => does_val (x_move rfl rfl) (hp.V 3 rfl rfl)) ?_
        refine .on rfl (fun a w hS hI hp => (hp.V 4 rfl rfl).elim fun v0 h0 => does_val (x_extract rfl h0.1 rfl) h0.2) ?_
        refine .on rfl (fun a w hS hI hp => (hp.V 4 rfl rfl).elim fun v0 h0 => does_val (x_extract rfl h0.1 rfl) rfl) ?_
        refine .on rfl (fun a w hS hI hp => does_val (x_assign rfl rfl) (hp.V 5 rfl rfl)) ?_
        refine .asg 6 rfl rfl rfl rfl ?_
        exact .nil
      clear hS
      intro at1007 w1008 hS hI hp
      have hBw1008_w := hI.1
      have hBw1008_wL1 := hI.2.1
      have hBw1008_w1004 := hI.2.2
      replace hS := ((((hS.nil).cons (hS.get 5 rfl)).cons (hS.get 4 rfl)).cons (hS.get 3 rfl)).cons (hS.get 1 rfl)
      obtain ⟨A1009, C1009, hv10, hl1009, hc1009⟩ := Kd.R_reads (show Kd.R k26 26 w1008 w1004.heap.size (fun _ => True) (sl _ 10) t1006_1 from hp 7 (by decide))
      have ho1009 : Kd.R k26 26 w1008 w1004.heap.size (fun _ => True) (.slice A1009 t1006_1.length C1009) t1006_1 := hv10 ▸ (hp 7 (by decide))
      have hv11 : sl _ 11 = .int .i64 t1006_2 := hp 8 (by decide)
      have hBw1008_w1008 := Below.refl w1008.heap.size w1008
      have hS := hS.cons hv10
      have hS := hS.cons hv11
      clear hp hI hv10 hv11
      refine hK1005 _ _ ?_
      (try clear hK1005 K1005)
      refine wp_seq_k (fun K1010 hK1010 => ?_)
      refine wp_seq_k (fun K1011 hK1011 => ?_)
      refine reg_seq (N := 89) (bs := [(11, .int .i64 t1006_2), (10, .slice A1009 t1006_1.length C1009), (0, .slice AL1_0 y1_0.length CL1_0), (7, .int .i64 x1_7), (8, .int .i64 x1_8), (9, .int .i64 x1_9)]) (I := fun x => Below w.heap.size w x ∧ Below w1004.heap.size w1004 x ∧ Below w1008.heap.size w1008 x) (ps := [VI x1_9, VI x1_7, VB (decide (x1_9 = x1_7))]) (by kernel_rfl) ?_ ?_ rfl hS ⟨hBw1008_w, hBw1008_w1004, hBw1008_w1008⟩ ?_ ?_
      · exact fun x y hI hb => ⟨below_step hI.1 hb, below_step hI.2.1 hb, below_step hI.2.2 hb⟩
      · exact .v (.v (.v (.nil)))
      · refine .ms 5 rfl rfl rfl ?_
        refine .ms 3 rfl rfl rfl ?_
        refine .on rfl (fun a w hS hI hp => does_val (x_bin rfl (hp.V 0 rfl rfl) (hp.V 1 rfl rfl) (b_eql _ _ _ _ _ _)) rfl) ?_
        exact .nil
      clear hS
      intro at1012 w1013 hS hI hp
      have hBw1013_w := hI.1
      have hBw1013_w1004 := hI.2.1
      have hBw1013_w1008 := hI.2.2
      replace hS := ((((hS.nil).cons (hS.get 4 rfl)).cons (hS.get 2 rfl)).cons (hS.get 1 rfl)).cons (hS.get 0 rfl)
      have hv66 : sl _ 66 = .bool (decide (x1_9 = x1_7)) := hp 2 (by decide)
      have hBw1013_w1013 := Below.refl w1013.heap.size w1013
      have hS := hS.cons hv66
      clear hp hI hv66
      refine hK1011 _ _ ?_
      (try clear hK1011 K1011)
      refine wp_cond_false ((hS.get 0 rfl).trans (bF (decide_eq_false c6))) ?_
      refine wp_skip ?_
      refine hK1010 _ _ ?_
      (try clear hK1010 K1010)
      refine wp_seq_k (fun K1014 hK1014 => ?_)
      refine reg_seq (N := 89) (bs := [(66, .bool (decide (x1_9 = x1_7))), (11, .int .i64 t1006_2), (10, .slice A1009 t1006_1.length C1009), (0, .slice AL1_0 y1_0.length CL1_0), (8, .int .i64 x1_8)]) (I := fun x => Below w.heap.size w x ∧ Below w1004.heap.size w1004 x ∧ Below w1008.heap.size w1008 x ∧ Below w1013.heap.size w1013 x) (ps := [VI t1006_2, VB (decide (t1006_2 = 2)), VB (decide (t1006_2 = 2)), IsV (.slice A1009 t1006_1.length C1009), VI (t1006_1.length : Int), VB (decide ((t1006_1.length : Int) = 0)), VB (decide ((t1006_1.length : Int) = 0)), VB (decide ((t1006_1.length : Int) = 0)), VB t1015, VB t1015, VB t1015]) (by kernel_rfl) ?_ ?_ rfl hS ⟨hBw1013_w, hBw1013_w1004, hBw1013_w1008, hBw1013_w1013⟩ ?_ ?_
      · exact fun x y hI hb => ⟨below_step hI.1 hb, below_step hI.2.1 hb, below_step hI.2.2.1 hb, below_step hI.2.2.2 hb⟩
      · exact .v (.v (.v (.v (.v (.v (.v (.v (.v (.v (.v (.nil)))))))))))
      · refine .ms 1 rfl rfl rfl ?_
        refine .on rfl (fun a w hS hI hp => does_val (x_bin rfl (hp.V 0 rfl rfl) (rfl) (b_eql _ _ _ _ _ _)) rfl) ?_
        refine .mv 1 rfl rfl rfl rfl ?_
        refine .oy 2 81 rfl rfl rfl rfl rfl ((decide_eq_true c7)) (fun a w hS hI hp => does_val (x_move rfl (hS.get 2 rfl)) rfl) ?_
        refine .oy 2 81 rfl rfl rfl rfl rfl ((decide_eq_true c7)) (fun a w hS hI hp => does_val (x_len (e := 26) rfl (by kernel_rfl) (hp.V 3 rfl rfl)) rfl) ?_
        refine .oy 2 81 rfl rfl rfl rfl rfl ((decide_eq_true c7)) (fun a w hS hI hp => does_val (x_bin rfl (hp.V 4 rfl rfl) (rfl) (b_eql _ _ _ _ _ _)) rfl) ?_
        refine .pt 2 5 rfl rfl rfl rfl ((decide_eq_true c7)) rfl rfl ?_
        refine .mv 6 rfl rfl rfl rfl ?_
        refine .oy 7 86 rfl rfl rfl rfl rfl ((decide_eq_true c8)) (fun a w hS hI hp => does_call (by kernel_rfl) rfl ((carillonlaw08_awake.calls k  t1015 _  At1015).mono fun _ _ h => ⟨_, h.1, h.2, rfl⟩)) ?_
        refine .pt 7 8 rfl rfl rfl rfl ((decide_eq_true c8)) rfl rfl ?_
        refine .asg 9 rfl rfl rfl rfl ?_
        exact .nil
      clear hS
      intro at1016 w1017 hS hI hp
      have hBw1017_w := hI.1
      have hBw1017_w1004 := hI.2.1
      have hBw1017_w1008 := hI.2.2.1
      have hBw1017_w1013 := hI.2.2.2
      replace hS := hS.nil
      have hv4 : sl _ 4 = .bool t1015 := hp 10 (by decide)
      have hBw1017_w1017 := Below.refl w1017.heap.size w1017
      have hS := hS.cons hv4
      clear hp hI hv4
      refine hK1014 _ _ ?_
      (try clear hK1014 K1014)
      refine wp_ret ?_
      (try simp only [Exit.then, Exit.inBlock, Exit.jump, Exit.noGoto])
      exact bodyPost_ret (v := .bool true) (by rw [results_tmp rfl]; exact congrArg (Result.ok · _) ((hS.get 0 rfl).trans (congrArg Value.bool hret))) hS.nodef ⟨rfl, hBw1017_w⟩
    rw [if_pos c6] at H
    by_cases c7 : t1006_2 = 0
    rotate_left
    · rw [if_neg c7] at H
      exact absurd H (by simp)
    rw [if_pos c7] at H
    by_cases c8 : 0 ≤ x1_8
    rotate_left
    · rw [if_neg c8] at H
      exact absurd H (by simp)
    rw [if_pos c8] at H
    by_cases c9 : x1_8 ≤ (y1_0.length : Int)
    rotate_left
    · rw [if_neg c9] at H
      exact absurd H (by simp)
    rw [if_pos c9] at H
    obtain ⟨t1015, At1015, H⟩ := Option.bind_eq_some_iff.mp H
    by_cases c10 : t1015 = true
    rotate_left
    · rw [if_neg c10] at H
      exact absurd H (by simp)
    rw [if_pos c10] at H
    obtain ⟨t1016, At1016, H⟩ := Option.bind_eq_some_iff.mp H
    have hret := Option.some.inj H
    clear H
    have hBwL1_wL1 := Below.refl wL1.heap.size wL1
    refine wp_seq_k (fun K1001 hK1001 => ?_)
    refine wp_seq_k (fun K1002 hK1002 => ?_)
    refine reg_seq (N := 89) (bs := [(0, .slice AL1_0 y1_0.length CL1_0), (5, .slice AL1_5 y1_5.length CL1_5), (7, .int .i64 x1_7), (8, .int .i64 x1_8), (9, .int .i64 x1_9)]) (I := fun x => Below w.heap.size w x ∧ Below wL1.heap.size wL1 x) (ps := [VI x1_8, IsV (.slice AL1_0 y1_0.length CL1_0), VI (y1_0.length : Int), VB (decide (x1_8 < (y1_0.length : Int))), VB (decide (x1_8 < (y1_0.length : Int))), VU, VU, VU, VU, VU, VU, VU, VU, VU, VU, VU, VB false]) (by kernel_rfl) ?_ ?_ rfl hS ⟨hBwL1_w, hBwL1_wL1⟩ ?_ ?_
    · exact fun x y hI hb => ⟨below_step hI.1 hb, below_step hI.2 hb⟩
    · exact .v (.v (.v (.v (.v (.v (.v (.v (.v (.v (.v (.v (.v (.v (.v (.v (.v (.nil)))))))))))))))))
    · refine .ms 3 rfl rfl rfl ?_
      refine .ms 0 rfl rfl rfl ?_
      refine .on rfl (fun a w hS hI hp => does_val (x_len (e := 26) rfl (by kernel_rfl) (hp.V 1 rfl rfl)) rfl) ?_
      refine .on rfl (fun a w hS hI hp => does_val (x_bin rfl (hp.V 0 rfl rfl) (hp.V 2 rfl rfl) (b_lss _ _ _ _ _ _)) rfl) ?_
      refine .mv 3 rfl rfl rfl rfl ?_
      iterate 11 refine .sn 4 33 rfl rfl rfl rfl rfl ((decide_eq_false c3)) ?_
      refine .pf 4 rfl rfl rfl rfl ((decide_eq_false c3)) (fun _ => rfl) ?_
      exact .nil
    clear hS
    intro at1003 w1004 hS hI hp
    have hBw1004_w := hI.1
    have hBw1004_wL1 := hI.2
    have hv45 : sl _ 45 = .bool false := hp 16 (by decide)
    have hBw1004_w1004 := Below.refl w1004.heap.size w1004
    have hS := hS.cons hv45
    clear hp hI hv45
    refine hK1002 _ _ ?_
    (try clear hK1002 K1002)
    refine wp_cond_false ((hS.get 0 rfl).trans (bF rfl)) ?_
    refine wp_exit ?_
    (try simp only [Exit.then, Exit.inBlock, reduceIte])
    refine hK25 _ _ ?_
    (try clear hK25 K25)
    refine wp_seq_k (fun K1005 hK1005 => ?_)
    refine reg_seq (N := 89) (bs := [(45, .bool false), (0, .slice AL1_0 y1_0.length CL1_0), (5, .slice AL1_5 y1_5.length CL1_5), (7, .int .i64 x1_7), (8, .int .i64 x1_8), (9, .int .i64 x1_9)]) (I := fun x => Below w.heap.size w x ∧ Below wL1.heap.size wL1 x ∧ Below w1004.heap.size w1004 x) (ps := [IsV (.slice AL1_5 y1_5.length CL1_5), VI x1_7, IsV (.slice AL1_5 ((y1_5.take (x1_7 : Int).toNat).length) CL1_5), IsT (fun v0_ => #[v0_, .int .i64 t1006_2]) (IsR k26 26 w1004.heap.size t1006_1), IsT (fun v0_ => #[v0_, .int .i64 t1006_2]) (IsR k26 26 w1004.heap.size t1006_1), IsR k26 26 w1004.heap.size t1006_1, VI t1006_2, IsR k26 26 w1004.heap.size t1006_1, VI t1006_2]) (by kernel_rfl) ?_ ?_ rfl hS ⟨hBw1004_w, hBw1004_wL1, hBw1004_w1004⟩ ?_ ?_
    · exact fun x y hI hb => ⟨below_step hI.1 hb, below_step hI.2.1 hb, below_step hI.2.2 hb⟩
    · exact .v (.v (.v (.cons (Stays.t _ (Stays.r _ _ _ _)) (.cons (Stays.t _ (Stays.r _ _ _ _)) (.cons (Stays.r _ _ _ _) (.v (.cons (Stays.r _ _ _ _) (.v (.nil)))))))))
    · refine .ms 2 rfl rfl rfl ?_
      refine .ms 3 rfl rfl rfl ?_
      refine .on rfl (fun a w hS hI hp => does_val (x_cuthi rfl (e := 5) (xs := y1_5) (by kernel_rfl) (by kernel_rfl) (hp.V 0 rfl rfl) (hp.V 1 rfl rfl) c4 c5 hr1_5) rfl) ?_
      refine .on rfl (fun a w hS hI hp => does_call (by kernel_rfl) (ar2 (hp.V 2 rfl rfl) (rfl)) ((tlv_Get.calls k _ _ (y1_5.take (x1_7 : Int).toNat) 0 t1006_1 t1006_2 _ (Kd.C_take (m := (x1_7 : Int).toNat) (Kd.C_below hcL1_5 hI.2.1) (by have := c5; omega)) (Nat.le_trans (List.length_take_le' _ _) hr1_5) At1006).mono fun _ _ h => h.elim fun v0 h => ⟨_, h.1, h.2.2, v0, rfl, Kd.R_lower h.2.1 hI.2.2.size⟩)) ?_
      refine .on rfl (fun a w hS hI hp => does_val (x_move rfl rfl) (hp.V 3 rfl rfl)) ?_
      refine .on rfl (fun a w hS hI hp => (hp.V 4 rfl rfl).elim fun v0 h0 => does_val (x_extract rfl h0.1 rfl) h0.2) ?_
      refine .on rfl (fun a w hS hI hp => (hp.V 4 rfl rfl).elim fun v0 h0 => does_val (x_extract rfl h0.1 rfl) rfl) ?_
      refine .on rfl (fun a w hS hI hp => does_val (x_assign rfl rfl) (hp.V 5 rfl rfl)) ?_
      refine .asg 6 rfl rfl rfl rfl ?_
      exact .nil
    clear hS
    intro at1007 w1008 hS hI hp
    have hBw1008_w := hI.1
    have hBw1008_wL1 := hI.2.1
    have hBw1008_w1004 := hI.2.2
    replace hS := ((((hS.nil).cons (hS.get 5 rfl)).cons (hS.get 4 rfl)).cons (hS.get 3 rfl)).cons (hS.get 1 rfl)
    obtain ⟨A1009, C1009, hv10, hl1009, hc1009⟩ := Kd.R_reads (show Kd.R k26 26 w1008 w1004.heap.size (fun _ => True) (sl _ 10) t1006_1 from hp 7 (by decide))
    have ho1009 : Kd.R k26 26 w1008 w1004.heap.size (fun _ => True) (.slice A1009 t1006_1.length C1009) t1006_1 := hv10 ▸ (hp 7 (by decide))
    have hv11 : sl _ 11 = .int .i64 t1006_2 := hp 8 (by decide)
    have hBw1008_w1008 := Below.refl w1008.heap.size w1008
    have hS := hS.cons hv10
    have hS := hS.cons hv11
    clear hp hI hv10 hv11
    refine hK1005 _ _ ?_
    (try clear hK1005 K1005)
    refine wp_seq_k (fun K1010 hK1010 => ?_)
    refine wp_seq_k (fun K1011 hK1011 => ?_)
    refine reg_seq (N := 89) (bs := [(11, .int .i64 t1006_2), (10, .slice A1009 t1006_1.length C1009), (0, .slice AL1_0 y1_0.length CL1_0), (7, .int .i64 x1_7), (8, .int .i64 x1_8), (9, .int .i64 x1_9)]) (I := fun x => Below w.heap.size w x ∧ Below w1004.heap.size w1004 x ∧ Below w1008.heap.size w1008 x) (ps := [VI x1_9, VI x1_7, VB (decide (x1_9 = x1_7))]) (by kernel_rfl) ?_ ?_ rfl hS ⟨hBw1008_w, hBw1008_w1004, hBw1008_w1008⟩ ?_ ?_
    · exact fun x y hI hb => ⟨below_step hI.1 hb, below_step hI.2.1 hb, below_step hI.2.2 hb⟩
    · exact .v (.v (.v (.nil)))
    · refine .ms 5 rfl rfl rfl ?_
      refine .ms 3 rfl rfl rfl ?_
      refine .on rfl (fun a w hS hI hp => does_val (x_bin rfl (hp.V 0 rfl rfl) (hp.V 1 rfl rfl) (b_eql _ _ _ _ _ _)) rfl) ?_
      exact .nil
    clear hS
    intro at1012 w1013 hS hI hp
    have hBw1013_w := hI.1
    have hBw1013_w1004 := hI.2.1
    have hBw1013_w1008 := hI.2.2
    replace hS := ((((hS.nil).cons (hS.get 4 rfl)).cons (hS.get 2 rfl)).cons (hS.get 1 rfl)).cons (hS.get 0 rfl)
    have hv66 : sl _ 66 = .bool (decide (x1_9 = x1_7)) := hp 2 (by decide)
    have hBw1013_w1013 := Below.refl w1013.heap.size w1013
    have hS := hS.cons hv66
    clear hp hI hv66
    refine hK1011 _ _ ?_
    (try clear hK1011 K1011)
    refine wp_cond_true ((hS.get 0 rfl).trans (bT (decide_eq_true c6))) ?_
    refine wp_seq_k (fun K1014 hK1014 => ?_)
    refine reg_seq (N := 89) (bs := [(66, .bool (decide (x1_9 = x1_7))), (11, .int .i64 t1006_2), (10, .slice A1009 t1006_1.length C1009), (0, .slice AL1_0 y1_0.length CL1_0), (8, .int .i64 x1_8)]) (I := fun x => Below w.heap.size w x ∧ Below w1004.heap.size w1004 x ∧ Below w1008.heap.size w1008 x ∧ Below w1013.heap.size w1013 x) (ps := [VI t1006_2, VB (decide (t1006_2 = 0)), VB (decide (t1006_2 = 0)), IsV (.slice A1009 t1006_1.length C1009), IsV (.slice AL1_0 y1_0.length CL1_0), VI x1_8, IsV (.slice AL1_0 ((y1_0.take (x1_8 : Int).toNat).length) CL1_0), VB t1015, VB t1015, VB t1015, VB t1016, VB t1016, VB t1016]) (by kernel_rfl) ?_ ?_ rfl hS ⟨hBw1013_w, hBw1013_w1004, hBw1013_w1008, hBw1013_w1013⟩ ?_ ?_
    · exact fun x y hI hb => ⟨below_step hI.1 hb, below_step hI.2.1 hb, below_step hI.2.2.1 hb, below_step hI.2.2.2 hb⟩
    · exact .v (.v (.v (.v (.v (.v (.v (.v (.v (.v (.v (.v (.v (.nil)))))))))))))
    · refine .ms 1 rfl rfl rfl ?_
      refine .on rfl (fun a w hS hI hp => does_val (x_bin rfl (hp.V 0 rfl rfl) (rfl) (b_eql _ _ _ _ _ _)) rfl) ?_
      refine .mv 1 rfl rfl rfl rfl ?_
      refine .oy 2 69 rfl rfl rfl rfl rfl ((decide_eq_true c7)) (fun a w hS hI hp => does_val (x_move rfl (hS.get 2 rfl)) rfl) ?_
      refine .oy 2 69 rfl rfl rfl rfl rfl ((decide_eq_true c7)) (fun a w hS hI hp => does_val (x_move rfl (hS.get 3 rfl)) rfl) ?_
      refine .oy 2 69 rfl rfl rfl rfl rfl ((decide_eq_true c7)) (fun a w hS hI hp => does_val (x_move rfl (hS.get 4 rfl)) rfl) ?_
      refine .oy 2 69 rfl rfl rfl rfl rfl ((decide_eq_true c7)) (fun a w hS hI hp => does_val (x_cuthi rfl (e := 26) (xs := y1_0) (by kernel_rfl) (by kernel_rfl) (hp.V 4 rfl rfl) (hp.V 5 rfl rfl) c8 c9 hr1_0) rfl) ?_
      refine .oy 2 69 rfl rfl rfl rfl rfl ((decide_eq_true c7)) (fun a w hS hI hp => does_call (by kernel_rfl) (ar2 (hp.V 3 rfl rfl) (hp.V 6 rfl rfl)) ((carillonlaw00_SameTlvs.calls k _ _ t1006_1 _ _ (y1_0.take (x1_8 : Int).toNat) t1015 _ (Kd.C_below hc1009 hI.2.2.1) hl1009 (Kd.C_take (m := (x1_8 : Int).toNat) (Kd.C_below hcL1_0 hI.1) (by have := c9; omega)) (Nat.le_trans (List.length_take_le' _ _) hr1_0) At1015).mono fun _ _ h => ⟨_, h.1, h.2.below, rfl⟩)) ?_
      refine .pt 2 7 rfl rfl rfl rfl ((decide_eq_true c7)) rfl rfl ?_
      refine .mv 8 rfl rfl rfl rfl ?_
      refine .oy 9 76 rfl rfl rfl rfl rfl c10 (fun a w hS hI hp => does_call (by kernel_rfl) rfl ((carillonlaw08_awake.calls k  t1016 _  At1016).mono fun _ _ h => ⟨_, h.1, h.2, rfl⟩)) ?_
      refine .pt 9 10 rfl rfl rfl rfl c10 rfl rfl ?_
      refine .asg 11 rfl rfl rfl rfl ?_
      exact .nil
    clear hS
    intro at1017 w1018 hS hI hp
    have hBw1018_w := hI.1
    have hBw1018_w1004 := hI.2.1
    have hBw1018_w1008 := hI.2.2.1
    have hBw1018_w1013 := hI.2.2.2
    replace hS := hS.nil
    have hv4 : sl _ 4 = .bool t1016 := hp 12 (by decide)
    have hBw1018_w1018 := Below.refl w1018.heap.size w1018
    have hS := hS.cons hv4
    clear hp hI hv4
    refine hK1014 _ _ ?_
    (try clear hK1014 K1014)
    refine wp_ret ?_
    (try simp only [Exit.then, Exit.inBlock, Exit.jump, Exit.noGoto])
    exact bodyPost_ret (v := .bool true) (by rw [results_tmp rfl]; exact congrArg (Result.ok · _) ((hS.get 0 rfl).trans (congrArg Value.bool hret))) hS.nodef ⟨rfl, hBw1018_w⟩
  rw [if_pos c3] at H
  by_cases c4 : 0 ≤ x1_8
  rotate_left
  · rw [if_neg c4] at H
    exact absurd H (by simp)
  rw [if_pos c4] at H
  by_cases c5 : (wrap64 ((wrap64 (x1_9 + 4)) + (((rd_T26 y1_0 x1_8).f1).size : Int))) ≤ x1_7
  · rw [if_pos c5] at H
    have hBwL1_wL1 := Below.refl wL1.heap.size wL1
    refine wp_seq_k (fun K1001 hK1001 => ?_)
    refine wp_seq_k (fun K1002 hK1002 => ?_)
    refine reg_seq (N := 89) (bs := [(0, .slice AL1_0 y1_0.length CL1_0), (5, .slice AL1_5 y1_5.length CL1_5), (7, .int .i64 x1_7), (8, .int .i64 x1_8), (9, .int .i64 x1_9)]) (I := fun x => Below w.heap.size w x ∧ Below wL1.heap.size wL1 x) (ps := [VI x1_8, IsV (.slice AL1_0 y1_0.length CL1_0), VI (y1_0.length : Int), VB (decide (x1_8 < (y1_0.length : Int))), VB (decide (x1_8 < (y1_0.length : Int))), VI x1_9, VI (wrap64 (x1_9 + 4)), IsV (.slice AL1_0 y1_0.length CL1_0), VI x1_8, IsAT [.int .i64 ((rd_T26 y1_0 x1_8).f0), .string ((rd_T26 y1_0 x1_8).f1)], IsAT [.string ((rd_T26 y1_0 x1_8).f1)], IsV (.string ((rd_T26 y1_0 x1_8).f1)), VI (((rd_T26 y1_0 x1_8).f1).size : Int), VI (wrap64 ((wrap64 (x1_9 + 4)) + (((rd_T26 y1_0 x1_8).f1).size : Int))), VI x1_7, VB (decide ((wrap64 ((wrap64 (x1_9 + 4)) + (((rd_T26 y1_0 x1_8).f1).size : Int))) ≤ x1_7)), VB (decide ((wrap64 ((wrap64 (x1_9 + 4)) + (((rd_T26 y1_0 x1_8).f1).size : Int))) ≤ x1_7))]) (by kernel_rfl) ?_ ?_ rfl hS ⟨hBwL1_w, hBwL1_wL1⟩ ?_ ?_
    · exact fun x y hI hb => ⟨below_step hI.1 hb, below_step hI.2 hb⟩
    · exact .v (.v (.v (.v (.v (.v (.v (.v (.v (.cons (Stays.at_ _) (.cons (Stays.at_ _) (.v (.v (.v (.v (.v (.v (.nil)))))))))))))))))
    · refine .ms 3 rfl rfl rfl ?_
      refine .ms 0 rfl rfl rfl ?_
      refine .on rfl (fun a w hS hI hp => does_val (x_len (e := 26) rfl (by kernel_rfl) (hp.V 1 rfl rfl)) rfl) ?_
      refine .on rfl (fun a w hS hI hp => does_val (x_bin rfl (hp.V 0 rfl rfl) (hp.V 2 rfl rfl) (b_lss _ _ _ _ _ _)) rfl) ?_
      refine .mv 3 rfl rfl rfl rfl ?_
      refine .oy 4 33 rfl rfl rfl rfl rfl ((decide_eq_true c3)) (fun a w hS hI hp => does_val (x_move rfl (hS.get 4 rfl)) rfl) ?_
      refine .oy 4 33 rfl rfl rfl rfl rfl ((decide_eq_true c3)) (fun a w hS hI hp => does_val (x_bin rfl (hp.V 5 rfl rfl) (rfl) (b_add _ _ _ _ _)) rfl) ?_
      refine .oy 4 33 rfl rfl rfl rfl rfl ((decide_eq_true c3)) (fun a w hS hI hp => does_val (x_move rfl (hS.get 0 rfl)) rfl) ?_
      refine .oy 4 33 rfl rfl rfl rfl rfl ((decide_eq_true c3)) (fun a w hS hI hp => does_val (x_move rfl (hS.get 3 rfl)) rfl) ?_
      refine .oy 4 33 rfl rfl rfl rfl rfl ((decide_eq_true c3)) (fun a w hS hI hp => does_indexT carillonlaw08_TlvCuts.flat26 (e := 26) (xs := y1_0) (i := x1_8) z26 rfl (hp.V 7 rfl rfl) (hp.V 8 rfl rfl) (by kernel_rfl) (by kernel_rfl) c4 c3 c3 (by decide) ((Kd.C_below hcL1_0 hI.1))) ?_
      refine .oy 4 33 rfl rfl rfl rfl rfl ((decide_eq_true c3)) (fun a w hS hI hp => does_fieldT (cs := [.int .i64 ((rd_T26 y1_0 x1_8).f0), .string ((rd_T26 y1_0 x1_8).f1)]) (off := 1) rfl (hp.V 9 rfl rfl) Try.underlying26 rfl rfl (by kernel_rfl) rfl) ?_
      refine .oy 4 33 rfl rfl rfl rfl rfl ((decide_eq_true c3)) (fun a w hS hI hp => does_loadA (d := .string) rfl (hp.V 10 rfl rfl) (by kernel_rfl) rfl) ?_
      refine .oy 4 33 rfl rfl rfl rfl rfl ((decide_eq_true c3)) (fun a w hS hI hp => does_val (x_lenS rfl (by kernel_rfl) (hp.V 11 rfl rfl)) rfl) ?_
      refine .oy 4 33 rfl rfl rfl rfl rfl ((decide_eq_true c3)) (fun a w hS hI hp => does_val (x_bin rfl (hp.V 6 rfl rfl) (hp.V 12 rfl rfl) (b_add _ _ _ _ _)) rfl) ?_
      refine .oy 4 33 rfl rfl rfl rfl rfl ((decide_eq_true c3)) (fun a w hS hI hp => does_val (x_move rfl (hS.get 2 rfl)) rfl) ?_
      refine .oy 4 33 rfl rfl rfl rfl rfl ((decide_eq_true c3)) (fun a w hS hI hp => does_val (x_bin rfl (hp.V 13 rfl rfl) (hp.V 14 rfl rfl) (b_leq _ _ _ _ _ _)) rfl) ?_
      refine .pt 4 15 rfl rfl rfl rfl ((decide_eq_true c3)) rfl rfl ?_
      exact .nil
    clear hS
    intro at1003 w1004 hS hI hp
    have hBw1004_w := hI.1
    have hBw1004_wL1 := hI.2
    have hv45 : sl _ 45 = .bool (decide ((wrap64 ((wrap64 (x1_9 + 4)) + (((rd_T26 y1_0 x1_8).f1).size : Int))) ≤ x1_7)) := hp 16 (by decide)
    have hBw1004_w1004 := Below.refl w1004.heap.size w1004
    have hS := hS.cons hv45
    clear hp hI hv45
    refine hK1002 _ _ ?_
    (try clear hK1002 K1002)
    refine wp_cond_true ((hS.get 0 rfl).trans (bT (decide_eq_true c5))) ?_
    refine wp_skip ?_
    refine hK1001 _ _ ?_
    (try clear hK1001 K1001)
    refine wp_block ?_
    refine wp_seq_k (fun K1005 hK1005 => ?_)
    refine reg_seq_tail 9 (N := 89) (bs := [(45, .bool (decide ((wrap64 ((wrap64 (x1_9 + 4)) + (((rd_T26 y1_0 x1_8).f1).size : Int))) ≤ x1_7))), (0, .slice AL1_0 y1_0.length CL1_0), (5, .slice AL1_5 y1_5.length CL1_5), (7, .int .i64 x1_7), (8, .int .i64 x1_8), (9, .int .i64 x1_9)]) (I := fun x => Below w.heap.size w x ∧ Below wL1.heap.size wL1 x ∧ Below w1004.heap.size w1004 x) (ps := [VI x1_9, VI (wrap64 (x1_9 + 4)), IsV (.slice AL1_0 y1_0.length CL1_0), VI x1_8, IsAT [.int .i64 ((rd_T26 y1_0 x1_8).f0), .string ((rd_T26 y1_0 x1_8).f1)], IsAT [.string ((rd_T26 y1_0 x1_8).f1)], IsV (.string ((rd_T26 y1_0 x1_8).f1)), VI (((rd_T26 y1_0 x1_8).f1).size : Int), VI (wrap64 ((wrap64 (x1_9 + 4)) + (((rd_T26 y1_0 x1_8).f1).size : Int)))]) (by kernel_rfl) ?_ ?_ rfl hS ⟨hBw1004_w, hBw1004_wL1, hBw1004_w1004⟩ ?_ ?_
    · exact fun x y hI hb => ⟨below_step hI.1 hb, below_step hI.2.1 hb, below_step hI.2.2 hb⟩
    · exact .v (.v (.v (.v (.cons (Stays.at_ _) (.cons (Stays.at_ _) (.v (.v (.v (.nil)))))))))
    · refine .ms 5 rfl rfl rfl ?_
      refine .on rfl (fun a w hS hI hp => does_val (x_bin rfl (hp.V 0 rfl rfl) (rfl) (b_add _ _ _ _ _)) rfl) ?_
      refine .ms 1 rfl rfl rfl ?_
      refine .ms 4 rfl rfl rfl ?_
      refine .on rfl (fun a w hS hI hp => does_indexT carillonlaw08_TlvCuts.flat26 (e := 26) (xs := y1_0) (i := x1_8) z26 rfl (hp.V 2 rfl rfl) (hp.V 3 rfl rfl) (by kernel_rfl) (by kernel_rfl) c4 c3 c3 (by decide) ((Kd.C_below hcL1_0 hI.1))) ?_
      refine .on rfl (fun a w hS hI hp => does_fieldT (cs := [.int .i64 ((rd_T26 y1_0 x1_8).f0), .string ((rd_T26 y1_0 x1_8).f1)]) (off := 1) rfl (hp.V 4 rfl rfl) Try.underlying26 rfl rfl (by kernel_rfl) rfl) ?_
      refine .on rfl (fun a w hS hI hp => does_loadA (d := .string) rfl (hp.V 5 rfl rfl) (by kernel_rfl) rfl) ?_
      refine .on rfl (fun a w hS hI hp => does_val (x_lenS rfl (by kernel_rfl) (hp.V 6 rfl rfl)) rfl) ?_
      refine .on rfl (fun a w hS hI hp => does_val (x_bin rfl (hp.V 1 rfl rfl) (hp.V 7 rfl rfl) (b_add _ _ _ _ _)) rfl) ?_
      exact .nil
    clear hS
    intro at1006 w1007 hS hI hp
    have hBw1007_w := hI.1
    have hBw1007_wL1 := hI.2.1
    have hBw1007_w1004 := hI.2.2
    replace hS := (((((hS.nil).cons (hS.get 5 rfl)).cons (hS.get 4 rfl)).cons (hS.get 3 rfl)).cons (hS.get 2 rfl)).cons (hS.get 1 rfl)
    have hv54 : sl _ 54 = .int .i64 (wrap64 ((wrap64 (x1_9 + 4)) + (((rd_T26 y1_0 x1_8).f1).size : Int))) := hp 8 (by decide)
    have hBw1007_w1007 := Below.refl w1007.heap.size w1007
    have hS := hS.cons hv54
    clear hp hI hv54
    show wpList _ _ _ [_] _ _
    refine list_step rfl (R := fun v w' => Below _ _ w' ∧ (VI (wrap64 ((wrap64 (x1_9 + 4)) + (((rd_T26 y1_0 x1_8).f1).size : Int)))) v w') (does_val (x_assign rfl (hS.get 0 rfl)) rfl) ?_
    rintro vw1008 w1008 ⟨hb, he⟩
    have hBw1008_w := below_step hBw1007_w hb
    have hBw1008_wL1 := below_step hBw1007_wL1 hb
    have hBw1008_w1007 := below_step hBw1007_w1007 hb
    have hBw1008_w1008 := Below.refl w1008.heap.size w1008
    obtain rfl : vw1008 = .int .i64 (wrap64 ((wrap64 (x1_9 + 4)) + (((rd_T26 y1_0 x1_8).f1).size : Int))) := he
    replace hS := (((((hS.nil).cons (hS.get 4 rfl)).cons (hS.get 3 rfl)).cons (hS.get 2 rfl)).cons (hS.get 1 rfl)).cons (hS.get 0 rfl)
    refine hS.next (v := .int .i64 (wrap64 ((wrap64 (x1_9 + 4)) + (((rd_T26 y1_0 x1_8).f1).size : Int)))) (d := 9) rfl (by decide) (by rfl) ?_
    clear hS
    intro at1009 hS
    refine wpList_nil ?_
    refine hK1005 _ _ ?_
    (try clear hK1005 K1005)
    refine reg_seq_tail 2 (N := 89) (bs := [(9, .int .i64 (wrap64 ((wrap64 (x1_9 + 4)) + (((rd_T26 y1_0 x1_8).f1).size : Int)))), (54, .int .i64 (wrap64 ((wrap64 (x1_9 + 4)) + (((rd_T26 y1_0 x1_8).f1).size : Int)))), (0, .slice AL1_0 y1_0.length CL1_0), (5, .slice AL1_5 y1_5.length CL1_5), (7, .int .i64 x1_7), (8, .int .i64 x1_8)]) (I := fun x => Below w.heap.size w x ∧ Below wL1.heap.size wL1 x ∧ Below w1008.heap.size w1008 x) (ps := [VI x1_8, VI (wrap64 (x1_8 + 1))]) (by kernel_rfl) ?_ ?_ rfl hS ⟨hBw1008_w, hBw1008_wL1, hBw1008_w1008⟩ ?_ ?_
    · exact fun x y hI hb => ⟨below_step hI.1 hb, below_step hI.2.1 hb, below_step hI.2.2 hb⟩
    · exact .v (.v (.nil))
    · refine .ms 5 rfl rfl rfl ?_
      refine .on rfl (fun a w hS hI hp => does_val (x_bin rfl (hp.V 0 rfl rfl) (rfl) (b_add _ _ _ _ _)) rfl) ?_
      exact .nil
    clear hS
    intro at1010 w1011 hS hI hp
    have hBw1011_w := hI.1
    have hBw1011_wL1 := hI.2.1
    have hBw1011_w1008 := hI.2.2
    replace hS := (((((hS.nil).cons (hS.get 5 rfl)).cons (hS.get 4 rfl)).cons (hS.get 3 rfl)).cons (hS.get 2 rfl)).cons (hS.get 0 rfl)
    have hv56 : sl _ 56 = .int .i64 (wrap64 (x1_8 + 1)) := hp 1 (by decide)
    have hBw1011_w1011 := Below.refl w1011.heap.size w1011
    have hS := hS.cons hv56
    clear hp hI hv56
    show wpList _ _ _ [_] _ _
    refine list_step rfl (R := fun v w' => Below _ _ w' ∧ (VI (wrap64 (x1_8 + 1))) v w') (does_val (x_assign rfl (hS.get 0 rfl)) rfl) ?_
    rintro vw1012 w1012 ⟨hb, he⟩
    have hBw1012_w := below_step hBw1011_w hb
    have hBw1012_wL1 := below_step hBw1011_wL1 hb
    have hBw1012_w1011 := below_step hBw1011_w1011 hb
    have hBw1012_w1012 := Below.refl w1012.heap.size w1012
    obtain rfl : vw1012 = .int .i64 (wrap64 (x1_8 + 1)) := he
    replace hS := (((((hS.nil).cons (hS.get 4 rfl)).cons (hS.get 3 rfl)).cons (hS.get 2 rfl)).cons (hS.get 1 rfl)).cons (hS.get 0 rfl)
    refine hS.next (v := .int .i64 (wrap64 (x1_8 + 1))) (d := 8) rfl (by decide) (by rfl) ?_
    clear hS
    intro at1013 hS
    refine wpList_nil ?_
    replace hS := (((((hS.nil).cons (hS.get 2 rfl)).cons (hS.get 0 rfl)).cons (hS.get 5 rfl)).cons (hS.get 4 rfl)).cons (hS.get 3 rfl)
    (try simp only [Exit.then, Exit.inBlock])
    exact ⟨n1, Nat.lt_succ_self _, y1_0, AL1_0, CL1_0, y1_5, AL1_5, CL1_5, x1_7, wrap64 (x1_8 + 1), wrap64 ((wrap64 (x1_9 + 4)) + (((rd_T26 y1_0 x1_8).f1).size : Int)), H, hS, hBw1012_w, hr1_0, (hcL1_0), hr1_5, (Kd.C_below hcL1_5 hBw1012_wL1)⟩
  rw [if_neg c5] at H
  by_cases c6 : 0 ≤ x1_7
  rotate_left
  · rw [if_neg c6] at H
    exact absurd H (by simp)
  rw [if_pos c6] at H
  by_cases c7 : x1_7 ≤ (y1_5.length : Int)
  rotate_left
  · rw [if_neg c7] at H
    exact absurd H (by simp)
  rw [if_pos c7] at H
  obtain ⟨t1006, At1006, H⟩ := Option.bind_eq_some_iff.mp H
  obtain ⟨t1006_1, t1006_2⟩ := t1006
  (try dsimp only at H)
  by_cases c8 : x1_9 = x1_7
  rotate_left
  · rw [if_neg c8] at H
    by_cases c9 : t1006_2 = 2
    rotate_left
    · rw [if_neg c9] at H
      exact absurd H (by simp)
    rw [if_pos c9] at H
    by_cases c10 : (t1006_1.length : Int) = 0
    rotate_left
    · rw [if_neg c10] at H
      exact absurd H (by simp)
    rw [if_pos c10] at H
    obtain ⟨t1015, At1015, H⟩ := Option.bind_eq_some_iff.mp H
    have hret := Option.some.inj H
    clear H
    have hBwL1_wL1 := Below.refl wL1.heap.size wL1
    refine wp_seq_k (fun K1001 hK1001 => ?_)
    refine wp_seq_k (fun K1002 hK1002 => ?_)
    refine reg_seq (N := 89) (bs := [(0, .slice AL1_0 y1_0.length CL1_0), (5, .slice AL1_5 y1_5.length CL1_5), (7, .int .i64 x1_7), (8, .int .i64 x1_8), (9, .int .i64 x1_9)]) (I := fun x => Below w.heap.size w x ∧ Below wL1.heap.size wL1 x) (ps := [VI x1_8, IsV (.slice AL1_0 y1_0.length CL1_0), VI (y1_0.length : Int), VB (decide (x1_8 < (y1_0.length : Int))), VB (decide (x1_8 < (y1_0.length : Int))), VI x1_9, VI (wrap64 (x1_9 + 4)), IsV (.slice AL1_0 y1_0.length CL1_0), VI x1_8, IsAT [.int .i64 ((rd_T26 y1_0 x1_8).f0), .string ((rd_T26 y1_0 x1_8).f1)], IsAT [.string ((rd_T26 y1_0 x1_8).f1)], IsV (.string ((rd_T26 y1_0 x1_8).f1)), VI (((rd_T26 y1_0 x1_8).f1).size : Int), VI (wrap64 ((wrap64 (x1_9 + 4)) + (((rd_T26 y1_0 x1_8).f1).size : Int))), VI x1_7, VB (decide ((wrap64 ((wrap64 (x1_9 + 4)) + (((rd_T26 y1_0 x1_8).f1).size : Int))) ≤ x1_7)), VB (decide ((wrap64 ((wrap64 (x1_9 + 4)) + (((rd_T26 y1_0 x1_8).f1).size : Int))) ≤ x1_7))]) (by kernel_rfl) ?_ ?_ rfl hS ⟨hBwL1_w, hBwL1_wL1⟩ ?_ ?_
    · exact fun x y hI hb => ⟨below_step hI.1 hb, below_step hI.2 hb⟩
    · exact .v (.v (.v (.v (.v (.v (.v (.v (.v (.cons (Stays.at_ _) (.cons (Stays.at_ _) (.v (.v (.v (.v (.v (.v (.nil)))))))))))))))))
    · refine .ms 3 rfl rfl rfl ?_
      refine .ms 0 rfl rfl rfl ?_
      refine .on rfl (fun a w hS hI hp => does_val (x_len (e := 26) rfl (by kernel_rfl) (hp.V 1 rfl rfl)) rfl) ?_
      refine .on rfl (fun a w hS hI hp => does_val (x_bin rfl (hp.V 0 rfl rfl) (hp.V 2 rfl rfl) (b_lss _ _ _ _ _ _)) rfl) ?_
      refine .mv 3 rfl rfl rfl rfl ?_
      refine .oy 4 33 rfl rfl rfl rfl rfl ((decide_eq_true c3)) (fun a w hS hI hp => does_val (x_move rfl (hS.get 4 rfl)) rfl) ?_
      refine .oy 4 33 rfl rfl rfl rfl rfl ((decide_eq_true c3)) (fun a w hS hI hp => does_val (x_bin rfl (hp.V 5 rfl rfl) (rfl) (b_add _ _ _ _ _)) rfl) ?_
      refine .oy 4 33 rfl rfl rfl rfl rfl ((decide_eq_true c3)) (fun a w hS hI hp => does_val (x_move rfl (hS.get 0 rfl)) rfl) ?_
      refine .oy 4 33 rfl rfl rfl rfl rfl ((decide_eq_true c3)) (fun a w hS hI hp => does_val (x_move rfl (hS.get 3 rfl)) rfl) ?_
      refine .oy 4 33 rfl rfl rfl rfl rfl ((decide_eq_true c3)) (fun a w hS hI hp => does_indexT carillonlaw08_TlvCuts.flat26 (e := 26) (xs := y1_0) (i := x1_8) z26 rfl (hp.V 7 rfl rfl) (hp.V 8 rfl rfl) (by kernel_rfl) (by kernel_rfl) c4 c3 c3 (by decide) ((Kd.C_below hcL1_0 hI.1))) ?_
      refine .oy 4 33 rfl rfl rfl rfl rfl ((decide_eq_true c3)) (fun a w hS hI hp => does_fieldT (cs := [.int .i64 ((rd_T26 y1_0 x1_8).f0), .string ((rd_T26 y1_0 x1_8).f1)]) (off := 1) rfl (hp.V 9 rfl rfl) Try.underlying26 rfl rfl (by kernel_rfl) rfl) ?_
      refine .oy 4 33 rfl rfl rfl rfl rfl ((decide_eq_true c3)) (fun a w hS hI hp => does_loadA (d := .string) rfl (hp.V 10 rfl rfl) (by kernel_rfl) rfl) ?_
      refine .oy 4 33 rfl rfl rfl rfl rfl ((decide_eq_true c3)) (fun a w hS hI hp => does_val (x_lenS rfl (by kernel_rfl) (hp.V 11 rfl rfl)) rfl) ?_
      refine .oy 4 33 rfl rfl rfl rfl rfl ((decide_eq_true c3)) (fun a w hS hI hp => does_val (x_bin rfl (hp.V 6 rfl rfl) (hp.V 12 rfl rfl) (b_add _ _ _ _ _)) rfl) ?_
      refine .oy 4 33 rfl rfl rfl rfl rfl ((decide_eq_true c3)) (fun a w hS hI hp => does_val (x_move rfl (hS.get 2 rfl)) rfl) ?_
      refine .oy 4 33 rfl rfl rfl rfl rfl ((decide_eq_true c3)) (fun a w hS hI hp => does_val (x_bin rfl (hp.V 13 rfl rfl) (hp.V 14 rfl rfl) (b_leq _ _ _ _ _ _)) rfl) ?_
      refine .pt 4 15 rfl rfl rfl rfl ((decide_eq_true c3)) rfl rfl ?_
      exact .nil
    clear hS
    intro at1003 w1004 hS hI hp
    have hBw1004_w := hI.1
    have hBw1004_wL1 := hI.2
    have hv45 : sl _ 45 = .bool (decide ((wrap64 ((wrap64 (x1_9 + 4)) + (((rd_T26 y1_0 x1_8).f1).size : Int))) ≤ x1_7)) := hp 16 (by decide)
    have hBw1004_w1004 := Below.refl w1004.heap.size w1004
    have hS := hS.cons hv45
    clear hp hI hv45
    refine hK1002 _ _ ?_
    (try clear hK1002 K1002)
    refine wp_cond_false ((hS.get 0 rfl).trans (bF (decide_eq_false c5))) ?_
    refine wp_exit ?_
    (try simp only [Exit.then, Exit.inBlock, reduceIte])
    refine hK25 _ _ ?_
    (try clear hK25 K25)
    refine wp_seq_k (fun K1005 hK1005 => ?_)
    refine reg_seq (N := 89) (bs := [(45, .bool (decide ((wrap64 ((wrap64 (x1_9 + 4)) + (((rd_T26 y1_0 x1_8).f1).size : Int))) ≤ x1_7))), (0, .slice AL1_0 y1_0.length CL1_0), (5, .slice AL1_5 y1_5.length CL1_5), (7, .int .i64 x1_7), (8, .int .i64 x1_8), (9, .int .i64 x1_9)]) (I := fun x => Below w.heap.size w x ∧ Below wL1.heap.size wL1 x ∧ Below w1004.heap.size w1004 x) (ps := [IsV (.slice AL1_5 y1_5.length CL1_5), VI x1_7, IsV (.slice AL1_5 ((y1_5.take (x1_7 : Int).toNat).length) CL1_5), IsT (fun v0_ => #[v0_, .int .i64 t1006_2]) (IsR k26 26 w1004.heap.size t1006_1), IsT (fun v0_ => #[v0_, .int .i64 t1006_2]) (IsR k26 26 w1004.heap.size t1006_1), IsR k26 26 w1004.heap.size t1006_1, VI t1006_2, IsR k26 26 w1004.heap.size t1006_1, VI t1006_2]) (by kernel_rfl) ?_ ?_ rfl hS ⟨hBw1004_w, hBw1004_wL1, hBw1004_w1004⟩ ?_ ?_
    · exact fun x y hI hb => ⟨below_step hI.1 hb, below_step hI.2.1 hb, below_step hI.2.2 hb⟩
    · exact .v (.v (.v (.cons (Stays.t _ (Stays.r _ _ _ _)) (.cons (Stays.t _ (Stays.r _ _ _ _)) (.cons (Stays.r _ _ _ _) (.v (.cons (Stays.r _ _ _ _) (.v (.nil)))))))))
    · refine .ms 2 rfl rfl rfl ?_
      refine .ms 3 rfl rfl rfl ?_
      refine .on rfl (fun a w hS hI hp => does_val (x_cuthi rfl (e := 5) (xs := y1_5) (by kernel_rfl) (by kernel_rfl) (hp.V 0 rfl rfl) (hp.V 1 rfl rfl) c6 c7 hr1_5) rfl) ?_
      refine .on rfl (fun a w hS hI hp => does_call (by kernel_rfl) (ar2 (hp.V 2 rfl rfl) (rfl)) ((tlv_Get.calls k _ _ (y1_5.take (x1_7 : Int).toNat) 0 t1006_1 t1006_2 _ (Kd.C_take (m := (x1_7 : Int).toNat) (Kd.C_below hcL1_5 hI.2.1) (by have := c7; omega)) (Nat.le_trans (List.length_take_le' _ _) hr1_5) At1006).mono fun _ _ h => h.elim fun v0 h => ⟨_, h.1, h.2.2, v0, rfl, Kd.R_lower h.2.1 hI.2.2.size⟩)) ?_
      refine .on rfl (fun a w hS hI hp => does_val (x_move rfl rfl) (hp.V 3 rfl rfl)) ?_
      refine .on rfl (fun a w hS hI hp => (hp.V 4 rfl rfl).elim fun v0 h0 => does_val (x_extract rfl h0.1 rfl) h0.2) ?_
      refine .on rfl (fun a w hS hI hp => (hp.V 4 rfl rfl).elim fun v0 h0 => does_val (x_extract rfl h0.1 rfl) rfl) ?_
      refine .on rfl (fun a w hS hI hp => does_val (x_assign rfl rfl) (hp.V 5 rfl rfl)) ?_
      refine .asg 6 rfl rfl rfl rfl ?_
      exact .nil
    clear hS
    intro at1007 w1008 hS hI hp
    have hBw1008_w := hI.1
    have hBw1008_wL1 := hI.2.1
    have hBw1008_w1004 := hI.2.2
    replace hS := ((((hS.nil).cons (hS.get 5 rfl)).cons (hS.get 4 rfl)).cons (hS.get 3 rfl)).cons (hS.get 1 rfl)
    obtain ⟨A1009, C1009, hv10, hl1009, hc1009⟩ := Kd.R_reads (show Kd.R k26 26 w1008 w1004.heap.size (fun _ => True) (sl _ 10) t1006_1 from hp 7 (by decide))
    have ho1009 : Kd.R k26 26 w1008 w1004.heap.size (fun _ => True) (.slice A1009 t1006_1.length C1009) t1006_1 := hv10 ▸ (hp 7 (by decide))
    have hv11 : sl _ 11 = .int .i64 t1006_2 := hp 8 (by decide)
    have hBw1008_w1008 := Below.refl w1008.heap.size w1008
    have hS := hS.cons hv10
    have hS := hS.cons hv11
    clear hp hI hv10 hv11
    refine hK1005 _ _ ?_
    (try clear hK1005 K1005)
    refine wp_seq_k (fun K1010 hK1010 => ?_)
    refine wp_seq_k (fun K1011 hK1011 => ?_)
    refine reg_seq (N := 89) (bs := [(11, .int .i64 t1006_2), (10, .slice A1009 t1006_1.length C1009), (0, .slice AL1_0 y1_0.length CL1_0), (7, .int .i64 x1_7), (8, .int .i64 x1_8), (9, .int .i64 x1_9)]) (I := fun x => Below w.heap.size w x ∧ Below w1004.heap.size w1004 x ∧ Below w1008.heap.size w1008 x) (ps := [VI x1_9, VI x1_7, VB (decide (x1_9 = x1_7))]) (by kernel_rfl) ?_ ?_ rfl hS ⟨hBw1008_w, hBw1008_w1004, hBw1008_w1008⟩ ?_ ?_
    · exact fun x y hI hb => ⟨below_step hI.1 hb, below_step hI.2.1 hb, below_step hI.2.2 hb⟩
    · exact .v (.v (.v (.nil)))
    · refine .ms 5 rfl rfl rfl ?_
      refine .ms 3 rfl rfl rfl ?_
      refine .on rfl (fun a w hS hI hp => does_val (x_bin rfl (hp.V 0 rfl rfl) (hp.V 1 rfl rfl) (b_eql _ _ _ _ _ _)) rfl) ?_
      exact .nil
    clear hS
    intro at1012 w1013 hS hI hp
    have hBw1013_w := hI.1
    have hBw1013_w1004 := hI.2.1
    have hBw1013_w1008 := hI.2.2
    replace hS := ((((hS.nil).cons (hS.get 4 rfl)).cons (hS.get 2 rfl)).cons (hS.get 1 rfl)).cons (hS.get 0 rfl)
    have hv66 : sl _ 66 = .bool (decide (x1_9 = x1_7)) := hp 2 (by decide)
    have hBw1013_w1013 := Below.refl w1013.heap.size w1013
    have hS := hS.cons hv66
    clear hp hI hv66
    refine hK1011 _ _ ?_
    (try clear hK1011 K1011)
    refine wp_cond_false ((hS.get 0 rfl).trans (bF (decide_eq_false c8))) ?_
    refine wp_skip ?_
    refine hK1010 _ _ ?_
    (try clear hK1010 K1010)
    refine wp_seq_k (fun K1014 hK1014 => ?_)
    refine reg_seq (N := 89) (bs := [(66, .bool (decide (x1_9 = x1_7))), (11, .int .i64 t1006_2), (10, .slice A1009 t1006_1.length C1009), (0, .slice AL1_0 y1_0.length CL1_0), (8, .int .i64 x1_8)]) (I := fun x => Below w.heap.size w x ∧ Below w1004.heap.size w1004 x ∧ Below w1008.heap.size w1008 x ∧ Below w1013.heap.size w1013 x) (ps := [VI t1006_2, VB (decide (t1006_2 = 2)), VB (decide (t1006_2 = 2)), IsV (.slice A1009 t1006_1.length C1009), VI (t1006_1.length : Int), VB (decide ((t1006_1.length : Int) = 0)), VB (decide ((t1006_1.length : Int) = 0)), VB (decide ((t1006_1.length : Int) = 0)), VB t1015, VB t1015, VB t1015]) (by kernel_rfl) ?_ ?_ rfl hS ⟨hBw1013_w, hBw1013_w1004, hBw1013_w1008, hBw1013_w1013⟩ ?_ ?_
    · exact fun x y hI hb => ⟨below_step hI.1 hb, below_step hI.2.1 hb, below_step hI.2.2.1 hb, below_step hI.2.2.2 hb⟩
    · exact .v (.v (.v (.v (.v (.v (.v (.v (.v (.v (.v (.nil)))))))))))
    · refine .ms 1 rfl rfl rfl ?_
      refine .on rfl (fun a w hS hI hp => does_val (x_bin rfl (hp.V 0 rfl rfl) (rfl) (b_eql _ _ _ _ _ _)) rfl) ?_
      refine .mv 1 rfl rfl rfl rfl ?_
      refine .oy 2 81 rfl rfl rfl rfl rfl ((decide_eq_true c9)) (fun a w hS hI hp => does_val (x_move rfl (hS.get 2 rfl)) rfl) ?_
      refine .oy 2 81 rfl rfl rfl rfl rfl ((decide_eq_true c9)) (fun a w hS hI hp => does_val (x_len (e := 26) rfl (by kernel_rfl) (hp.V 3 rfl rfl)) rfl) ?_
      refine .oy 2 81 rfl rfl rfl rfl rfl ((decide_eq_true c9)) (fun a w hS hI hp => does_val (x_bin rfl (hp.V 4 rfl rfl) (rfl) (b_eql _ _ _ _ _ _)) rfl) ?_
      refine .pt 2 5 rfl rfl rfl rfl ((decide_eq_true c9)) rfl rfl ?_
      refine .mv 6 rfl rfl rfl rfl ?_
      refine .oy 7 86 rfl rfl rfl rfl rfl ((decide_eq_true c10)) (fun a w hS hI hp => does_call (by kernel_rfl) rfl ((carillonlaw08_awake.calls k  t1015 _  At1015).mono fun _ _ h => ⟨_, h.1, h.2, rfl⟩)) ?_
      refine .pt 7 8 rfl rfl rfl rfl ((decide_eq_true c10)) rfl rfl ?_
      refine .asg 9 rfl rfl rfl rfl ?_
      exact .nil
    clear hS
    intro at1016 w1017 hS hI hp
    have hBw1017_w := hI.1
    have hBw1017_w1004 := hI.2.1
    have hBw1017_w1008 := hI.2.2.1
    have hBw1017_w1013 := hI.2.2.2
    replace hS := hS.nil
    have hv4 : sl _ 4 = .bool t1015 := hp 10 (by decide)
    have hBw1017_w1017 := Below.refl w1017.heap.size w1017
    have hS := hS.cons hv4
    clear hp hI hv4
    refine hK1014 _ _ ?_
    (try clear hK1014 K1014)
    refine wp_ret ?_
    (try simp only [Exit.then, Exit.inBlock, Exit.jump, Exit.noGoto])
    exact bodyPost_ret (v := .bool true) (by rw [results_tmp rfl]; exact congrArg (Result.ok · _) ((hS.get 0 rfl).trans (congrArg Value.bool hret))) hS.nodef ⟨rfl, hBw1017_w⟩
  rw [if_pos c8] at H
  by_cases c9 : t1006_2 = 0
  rotate_left
  · rw [if_neg c9] at H
    exact absurd H (by simp)
  rw [if_pos c9] at H
  by_cases c10 : x1_8 ≤ (y1_0.length : Int)
  rotate_left
  · rw [if_neg c10] at H
    exact absurd H (by simp)
  rw [if_pos c10] at H
  obtain ⟨t1015, At1015, H⟩ := Option.bind_eq_some_iff.mp H
  by_cases c11 : t1015 = true
  rotate_left
  · rw [if_neg c11] at H
    exact absurd H (by simp)
  rw [if_pos c11] at H
  obtain ⟨t1016, At1016, H⟩ := Option.bind_eq_some_iff.mp H
  have hret := Option.some.inj H
  clear H
  have hBwL1_wL1 := Below.refl wL1.heap.size wL1
  refine wp_seq_k (fun K1001 hK1001 => ?_)
  refine wp_seq_k (fun K1002 hK1002 => ?_)
  refine reg_seq (N := 89) (bs := [(0, .slice AL1_0 y1_0.length CL1_0), (5, .slice AL1_5 y1_5.length CL1_5), (7, .int .i64 x1_7), (8, .int .i64 x1_8), (9, .int .i64 x1_9)]) (I := fun x => Below w.heap.size w x ∧ Below wL1.heap.size wL1 x) (ps := [VI x1_8, IsV (.slice AL1_0 y1_0.length CL1_0), VI (y1_0.length : Int), VB (decide (x1_8 < (y1_0.length : Int))), VB (decide (x1_8 < (y1_0.length : Int))), VI x1_9, VI (wrap64 (x1_9 + 4)), IsV (.slice AL1_0 y1_0.length CL1_0), VI x1_8, IsAT [.int .i64 ((rd_T26 y1_0 x1_8).f0), .string ((rd_T26 y1_0 x1_8).f1)], IsAT [.string ((rd_T26 y1_0 x1_8).f1)], IsV (.string ((rd_T26 y1_0 x1_8).f1)), VI (((rd_T26 y1_0 x1_8).f1).size : Int), VI (wrap64 ((wrap64 (x1_9 + 4)) + (((rd_T26 y1_0 x1_8).f1).size : Int))), VI x1_7, VB (decide ((wrap64 ((wrap64 (x1_9 + 4)) + (((rd_T26 y1_0 x1_8).f1).size : Int))) ≤ x1_7)), VB (decide ((wrap64 ((wrap64 (x1_9 + 4)) + (((rd_T26 y1_0 x1_8).f1).size : Int))) ≤ x1_7))]) (by kernel_rfl) ?_ ?_ rfl hS ⟨hBwL1_w, hBwL1_wL1⟩ ?_ ?_
  · exact fun x y hI hb => ⟨below_step hI.1 hb, below_step hI.2 hb⟩
  · exact .v (.v (.v (.v (.v (.v (.v (.v (.v (.cons (Stays.at_ _) (.cons (Stays.at_ _) (.v (.v (.v (.v (.v (.v (.nil)))))))))))))))))
  · refine .ms 3 rfl rfl rfl ?_
    refine .ms 0 rfl rfl rfl ?_
    refine .on rfl (fun a w hS hI hp => does_val (x_len (e := 26) rfl (by kernel_rfl) (hp.V 1 rfl rfl)) rfl) ?_
    refine .on rfl (fun a w hS hI hp => does_val (x_bin rfl (hp.V 0 rfl rfl) (hp.V 2 rfl rfl) (b_lss _ _ _ _ _ _)) rfl) ?_
    refine .mv 3 rfl rfl rfl rfl ?_
    refine .oy 4 33 rfl rfl rfl rfl rfl ((decide_eq_true c3)) (fun a w hS hI hp => does_val (x_move rfl (hS.get 4 rfl)) rfl) ?_
    refine .oy 4 33 rfl rfl rfl rfl rfl ((decide_eq_true c3)) (fun a w hS hI hp => does_val (x_bin rfl (hp.V 5 rfl rfl) (rfl) (b_add _ _ _ _ _)) rfl) ?_
    refine .oy 4 33 rfl rfl rfl rfl rfl ((decide_eq_true c3)) (fun a w hS hI hp => does_val (x_move rfl (hS.get 0 rfl)) rfl) ?_
    refine .oy 4 33 rfl rfl rfl rfl rfl ((decide_eq_true c3)) (fun a w hS hI hp => does_val (x_move rfl (hS.get 3 rfl)) rfl) ?_
    refine .oy 4 33 rfl rfl rfl rfl rfl ((decide_eq_true c3)) (fun a w hS hI hp => does_indexT carillonlaw08_TlvCuts.flat26 (e := 26) (xs := y1_0) (i := x1_8) z26 rfl (hp.V 7 rfl rfl) (hp.V 8 rfl rfl) (by kernel_rfl) (by kernel_rfl) c4 c3 c3 (by decide) ((Kd.C_below hcL1_0 hI.1))) ?_
    refine .oy 4 33 rfl rfl rfl rfl rfl ((decide_eq_true c3)) (fun a w hS hI hp => does_fieldT (cs := [.int .i64 ((rd_T26 y1_0 x1_8).f0), .string ((rd_T26 y1_0 x1_8).f1)]) (off := 1) rfl (hp.V 9 rfl rfl) Try.underlying26 rfl rfl (by kernel_rfl) rfl) ?_
    refine .oy 4 33 rfl rfl rfl rfl rfl ((decide_eq_true c3)) (fun a w hS hI hp => does_loadA (d := .string) rfl (hp.V 10 rfl rfl) (by kernel_rfl) rfl) ?_
    refine .oy 4 33 rfl rfl rfl rfl rfl ((decide_eq_true c3)) (fun a w hS hI hp => does_val (x_lenS rfl (by kernel_rfl) (hp.V 11 rfl rfl)) rfl) ?_
    refine .oy 4 33 rfl rfl rfl rfl rfl ((decide_eq_true c3)) (fun a w hS hI hp => does_val (x_bin rfl (hp.V 6 rfl rfl) (hp.V 12 rfl rfl) (b_add _ _ _ _ _)) rfl) ?_
    refine .oy 4 33 rfl rfl rfl rfl rfl ((decide_eq_true c3)) (fun a w hS hI hp => does_val (x_move rfl (hS.get 2 rfl)) rfl) ?_
    refine .oy 4 33 rfl rfl rfl rfl rfl ((decide_eq_true c3)) (fun a w hS hI hp => does_val (x_bin rfl (hp.V 13 rfl rfl) (hp.V 14 rfl rfl) (b_leq _ _ _ _ _ _)) rfl) ?_
    refine .pt 4 15 rfl rfl rfl rfl ((decide_eq_true c3)) rfl rfl ?_
    exact .nil
  clear hS
  intro at1003 w1004 hS hI hp
  have hBw1004_w := hI.1
  have hBw1004_wL1 := hI.2
  have hv45 : sl _ 45 = .bool (decide ((wrap64 ((wrap64 (x1_9 + 4)) + (((rd_T26 y1_0 x1_8).f1).size : Int))) ≤ x1_7)) := hp 16 (by decide)
  have hBw1004_w1004 := Below.refl w1004.heap.size w1004
  have hS := hS.cons hv45
  clear hp hI hv45
  refine hK1002 _ _ ?_
  (try clear hK1002 K1002)
  refine wp_cond_false ((hS.get 0 rfl).trans (bF (decide_eq_false c5))) ?_
  refine wp_exit ?_
  (try simp only [Exit.then, Exit.inBlock, reduceIte])
  refine hK25 _ _ ?_
  (try clear hK25 K25)
  refine wp_seq_k (fun K1005 hK1005 => ?_)
  refine reg_seq (N := 89) (bs := [(45, .bool (decide ((wrap64 ((wrap64 (x1_9 + 4)) + (((rd_T26 y1_0 x1_8).f1).size : Int))) ≤ x1_7))), (0, .slice AL1_0 y1_0.length CL1_0), (5, .slice AL1_5 y1_5.length CL1_5), (7, .int .i64 x1_7), (8, .int .i64 x1_8), (9, .int .i64 x1_9)]) (I := fun x => Below w.heap.size w x ∧ Below wL1.heap.size wL1 x ∧ Below w1004.heap.size w1004 x) (ps := [IsV (.slice AL1_5 y1_5.length CL1_5), VI x1_7, IsV (.slice AL1_5 ((y1_5.take (x1_7 : Int).toNat).length) CL1_5), IsT (fun v0_ => #[v0_, .int .i64 t1006_2]) (IsR k26 26 w1004.heap.size t1006_1), IsT (fun v0_ => #[v0_, .int .i64 t1006_2]) (IsR k26 26 w1004.heap.size t1006_1), IsR k26 26 w1004.heap.size t1006_1, VI t1006_2, IsR k26 26 w1004.heap.size t1006_1, VI t1006_2]) (by kernel_rfl) ?_ ?_ rfl hS ⟨hBw1004_w, hBw1004_wL1, hBw1004_w1004⟩ ?_ ?_
  · exact fun x y hI hb => ⟨below_step hI.1 hb, below_step hI.2.1 hb, below_step hI.2.2 hb⟩
  · exact .v (.v (.v (.cons (Stays.t _ (Stays.r _ _ _ _)) (.cons (Stays.t _ (Stays.r _ _ _ _)) (.cons (Stays.r _ _ _ _) (.v (.cons (Stays.r _ _ _ _) (.v (.nil)))))))))
  · refine .ms 2 rfl rfl rfl ?_
    refine .ms 3 rfl rfl rfl ?_
    refine .on rfl (fun a w hS hI hp => does_val (x_cuthi rfl (e := 5) (xs := y1_5) (by kernel_rfl) (by kernel_rfl) (hp.V 0 rfl rfl) (hp.V 1 rfl rfl) c6 c7 hr1_5) rfl) ?_
    refine .on rfl (fun a w hS hI hp => does_call (by kernel_rfl) (ar2 (hp.V 2 rfl rfl) (rfl)) ((tlv_Get.calls k _ _ (y1_5.take (x1_7 : Int).toNat) 0 t1006_1 t1006_2 _ (Kd.C_take (m := (x1_7 : Int).toNat) (Kd.C_below hcL1_5 hI.2.1) (by have := c7; omega)) (Nat.le_trans (List.length_take_le' _ _) hr1_5) At1006).mono fun _ _ h => h.elim fun v0 h => ⟨_, h.1, h.2.2, v0, rfl, Kd.R_lower h.2.1 hI.2.2.size⟩)) ?_
    refine .on rfl (fun a w hS hI hp => does_val (x_move rfl rfl) (hp.V 3 rfl rfl)) ?_
    refine .on rfl (fun a w hS hI hp => (hp.V 4 rfl rfl).elim fun v0 h0 => does_val (x_extract rfl h0.1 rfl) h0.2) ?_
    refine .on rfl (fun a w hS hI hp => (hp.V 4 rfl rfl).elim fun v0 h0 => does_val (x_extract rfl h0.1 rfl) rfl) ?_
    refine .on rfl (fun a w hS hI hp => does_val (x_assign rfl rfl) (hp.V 5 rfl rfl)) ?_
    refine .asg 6 rfl rfl rfl rfl ?_
    exact .nil
  clear hS
  intro at1007 w1008 hS hI hp
  have hBw1008_w := hI.1
  have hBw1008_wL1 := hI.2.1
  have hBw1008_w1004 := hI.2.2
  replace hS := ((((hS.nil).cons (hS.get 5 rfl)).cons (hS.get 4 rfl)).cons (hS.get 3 rfl)).cons (hS.get 1 rfl)
  obtain ⟨A1009, C1009, hv10, hl1009, hc1009⟩ := Kd.R_reads (show Kd.R k26 26 w1008 w1004.heap.size (fun _ => True) (sl _ 10) t1006_1 from hp 7 (by decide))
  have ho1009 : Kd.R k26 26 w1008 w1004.heap.size (fun _ => True) (.slice A1009 t1006_1.length C1009) t1006_1 := hv10 ▸ (hp 7 (by decide))
  have hv11 : sl _ 11 = .int .i64 t1006_2 := hp 8 (by decide)
  have hBw1008_w1008 := Below.refl w1008.heap.size w1008
  have hS := hS.cons hv10
  have hS := hS.cons hv11
  clear hp hI hv10 hv11
  refine hK1005 _ _ ?_
  (try clear hK1005 K1005)
  refine wp_seq_k (fun K1010 hK1010 => ?_)
  refine wp_seq_k (fun K1011 hK1011 => ?_)
  refine reg_seq (N := 89) (bs := [(11, .int .i64 t1006_2), (10, .slice A1009 t1006_1.length C1009), (0, .slice AL1_0 y1_0.length CL1_0), (7, .int .i64 x1_7), (8, .int .i64 x1_8), (9, .int .i64 x1_9)]) (I := fun x => Below w.heap.size w x ∧ Below w1004.heap.size w1004 x ∧ Below w1008.heap.size w1008 x) (ps := [VI x1_9, VI x1_7, VB (decide (x1_9 = x1_7))]) (by kernel_rfl) ?_ ?_ rfl hS ⟨hBw1008_w, hBw1008_w1004, hBw1008_w1008⟩ ?_ ?_
  · exact fun x y hI hb => ⟨below_step hI.1 hb, below_step hI.2.1 hb, below_step hI.2.2 hb⟩
  · exact .v (.v (.v (.nil)))
  · refine .ms 5 rfl rfl rfl ?_
    refine .ms 3 rfl rfl rfl ?_
    refine .on rfl (fun a w hS hI hp => does_val (x_bin rfl (hp.V 0 rfl rfl) (hp.V 1 rfl rfl) (b_eql _ _ _ _ _ _)) rfl) ?_
    exact .nil
  clear hS
  intro at1012 w1013 hS hI hp
  have hBw1013_w := hI.1
  have hBw1013_w1004 := hI.2.1
  have hBw1013_w1008 := hI.2.2
  replace hS := ((((hS.nil).cons (hS.get 4 rfl)).cons (hS.get 2 rfl)).cons (hS.get 1 rfl)).cons (hS.get 0 rfl)
  have hv66 : sl _ 66 = .bool (decide (x1_9 = x1_7)) := hp 2 (by decide)
  have hBw1013_w1013 := Below.refl w1013.heap.size w1013
  have hS := hS.cons hv66
  clear hp hI hv66
  refine hK1011 _ _ ?_
  (try clear hK1011 K1011)
  refine wp_cond_true ((hS.get 0 rfl).trans (bT (decide_eq_true c8))) ?_
  refine wp_seq_k (fun K1014 hK1014 => ?_)
  refine reg_seq (N := 89) (bs := [(66, .bool (decide (x1_9 = x1_7))), (11, .int .i64 t1006_2), (10, .slice A1009 t1006_1.length C1009), (0, .slice AL1_0 y1_0.length CL1_0), (8, .int .i64 x1_8)]) (I := fun x => Below w.heap.size w x ∧ Below w1004.heap.size w1004 x ∧ Below w1008.heap.size w1008 x ∧ Below w1013.heap.size w1013 x) (ps := [VI t1006_2, VB (decide (t1006_2 = 0)), VB (decide (t1006_2 = 0)), IsV (.slice A1009 t1006_1.length C1009), IsV (.slice AL1_0 y1_0.length CL1_0), VI x1_8, IsV (.slice AL1_0 ((y1_0.take (x1_8 : Int).toNat).length) CL1_0), VB t1015, VB t1015, VB t1015, VB t1016, VB t1016, VB t1016]) (by kernel_rfl) ?_ ?_ rfl hS ⟨hBw1013_w, hBw1013_w1004, hBw1013_w1008, hBw1013_w1013⟩ ?_ ?_
  · exact fun x y hI hb => ⟨below_step hI.1 hb, below_step hI.2.1 hb, below_step hI.2.2.1 hb, below_step hI.2.2.2 hb⟩
  · exact .v (.v (.v (.v (.v (.v (.v (.v (.v (.v (.v (.v (.v (.nil)))))))))))))
  · refine .ms 1 rfl rfl rfl ?_
    refine .on rfl (fun a w hS hI hp => does_val (x_bin rfl (hp.V 0 rfl rfl) (rfl) (b_eql _ _ _ _ _ _)) rfl) ?_
    refine .mv 1 rfl rfl rfl rfl ?_
    refine .oy 2 69 rfl rfl rfl rfl rfl ((decide_eq_true c9)) (fun a w hS hI hp => does_val (x_move rfl (hS.get 2 rfl)) rfl) ?_
    refine .oy 2 69 rfl rfl rfl rfl rfl ((decide_eq_true c9)) (fun a w hS hI hp => does_val (x_move rfl (hS.get 3 rfl)) rfl) ?_
    refine .oy 2 69 rfl rfl rfl rfl rfl ((decide_eq_true c9)) (fun a w hS hI hp => does_val (x_move rfl (hS.get 4 rfl)) rfl) ?_
    refine .oy 2 69 rfl rfl rfl rfl rfl ((decide_eq_true c9)) (fun a w hS hI hp => does_val (x_cuthi rfl (e := 26) (xs := y1_0) (by kernel_rfl) (by kernel_rfl) (hp.V 4 rfl rfl) (hp.V 5 rfl rfl) c4 c10 hr1_0) rfl) ?_
    refine .oy 2 69 rfl rfl rfl rfl rfl ((decide_eq_true c9)) (fun a w hS hI hp => does_call (by kernel_rfl) (ar2 (hp.V 3 rfl rfl) (hp.V 6 rfl rfl)) ((carillonlaw00_SameTlvs.calls k _ _ t1006_1 _ _ (y1_0.take (x1_8 : Int).toNat) t1015 _ (Kd.C_below hc1009 hI.2.2.1) hl1009 (Kd.C_take (m := (x1_8 : Int).toNat) (Kd.C_below hcL1_0 hI.1) (by have := c10; omega)) (Nat.le_trans (List.length_take_le' _ _) hr1_0) At1015).mono fun _ _ h => ⟨_, h.1, h.2.below, rfl⟩)) ?_
    refine .pt 2 7 rfl rfl rfl rfl ((decide_eq_true c9)) rfl rfl ?_
    refine .mv 8 rfl rfl rfl rfl ?_
    refine .oy 9 76 rfl rfl rfl rfl rfl c11 (fun a w hS hI hp => does_call (by kernel_rfl) rfl ((carillonlaw08_awake.calls k  t1016 _  At1016).mono fun _ _ h => ⟨_, h.1, h.2, rfl⟩)) ?_
    refine .pt 9 10 rfl rfl rfl rfl c11 rfl rfl ?_
    refine .asg 11 rfl rfl rfl rfl ?_
    exact .nil
  clear hS
  intro at1017 w1018 hS hI hp
  have hBw1018_w := hI.1
  have hBw1018_w1004 := hI.2.1
  have hBw1018_w1008 := hI.2.2.1
  have hBw1018_w1013 := hI.2.2.2
  replace hS := hS.nil
  have hv4 : sl _ 4 = .bool t1016 := hp 12 (by decide)
  have hBw1018_w1018 := Below.refl w1018.heap.size w1018
  have hS := hS.cons hv4
  clear hp hI hv4
  refine hK1014 _ _ ?_
  (try clear hK1014 K1014)
  refine wp_ret ?_
  (try simp only [Exit.then, Exit.inBlock, Exit.jump, Exit.noGoto])
  exact bodyPost_ret (v := .bool true) (by rw [results_tmp rfl]; exact congrArg (Result.ok · _) ((hS.get 0 rfl).trans (congrArg Value.bool hret))) hS.nodef ⟨rfl, hBw1018_w⟩
def carillonlaw08_TlvCuts.Pure : Prop := ∀ (l0 : List (S26)) (a1 : Int), l0.length ≤ maxLen → l0.length * 24 ≤ 140737488351232 → (∀ x ∈ l0, (Lit.int .i64 x.f0).wf = true ∧ x.f1.size ≤ 9223372036854775807) → (Lit.int .i64 a1).wf = true → ∃ k, carillonlaw08_TlvCuts.f k l0 a1 = some true
theorem carillonlaw08_TlvCuts.walk (P : carillonlaw08_TlvCuts.Pure) (a0 : Option Addr) (cap0 : Nat) (l0 : List (S26)) (a1 : Int) (w : World) (hr0 : Kd.C k26 w a0 l0.length l0) (hc0 : l0.length ≤ cap0) (hm0 : l0.length ≤ maxLen) (y0 : l0.length * 24 ≤ 140737488351232) (hw0 : (∀ x ∈ l0, (Lit.int .i64 x.f0).wf = true ∧ x.f1.size ≤ 9223372036854775807)) (w1 : (Lit.int .i64 a1).wf = true) :
    Calls Try.prog 6 #[.slice a0 l0.length cap0, .int .i64 a1] w fun e w' => e = .returned (.bool true) ∧ Below w.heap.size w w' := by
  obtain ⟨k, h⟩ := P l0 a1 hm0 y0 hw0 w1
  refine (carillonlaw08_TlvCuts.calls k a0 cap0 l0 a1 w hr0 hc0 h).mono ?_
  rintro e w' ⟨rfl, hd⟩
  exact ⟨rfl, hd⟩
end Go.Proofs.Ytgmiokocipmbaaa.P
