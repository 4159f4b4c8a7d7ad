/- Functions and loops of the given program as Lean functions, and that the code comes to what they say: written by this session's own program; Lean checks it. -/
import Derived.Test.YtgmiokocipmbaaaZzPx0
import Derived.Test.YtgmiokocipmbaaaZzPx1
import Derived.Test.YtgmiokocipmbaaaZzPx2
import Derived.Test.YtgmiokocipmbaaaZzPx3
import Derived.Test.YtgmiokocipmbaaaZzPx7
import Derived.Test.YtgmiokocipmbaaaZzPx8
namespace Go.Proofs.Ytgmiokocipmbaaa.P
open Go.RowKit Go.Proofs.YtgmiokocipmbaaaW.PrintWords Go.Proofs.YtgmiokocipmbaaaW.PrintLast Go.Proofs.YtgmiokocipmbaaaW.PrintMore
attribute [local go_sem] max2_int min2_int max_two min_two max_three min_three max_four min_four   -- for this text's walks alone
set_option linter.unusedVariables false
set_option linter.unusedSimpArgs false
attribute [local go_sem high] eqA26
/-! ### carillonlaw00_SameTlvs: function 24 -/
def carillonlaw00_SameTlvs.l0 : Nat → List (S26) → List (S26) → Int → Option (Bool)
  | 0, _, _, _ => none
  | k + 1, x0, x1, x5 => if x5 < (x0.length : Int) then (if 0 ≤ x5 then (if x5 < (x1.length : Int) then (if (!(((rd_T26 x0 x5).f0) == ((rd_T26 x1 x5).f0)) || (!((((rd_T26 x0 x5).f1).toList) == (((rd_T26 x1 x5).f1).toList)))) = true then (some false) else (carillonlaw00_SameTlvs.l0 k x0 x1 (wrap64 (x5 + 1)))) else (none)) else (none)) else (some true)
def carillonlaw00_SameTlvs.f (k : Nat) (l0 : List (S26)) (l1 : List (S26)) : Option (Bool) := if (l0.length : Int) = (l1.length : Int) then (carillonlaw00_SameTlvs.l0 k l0 l1 0) else (some false)
set_option maxHeartbeats 8000000 in
set_option maxRecDepth 100000 in
theorem carillonlaw00_SameTlvs.calls (k : Nat) (A0 : Option Addr) (c0 : Nat) (l0 : List (S26)) (A1 : Option Addr) (c1 : Nat) (l1 : List (S26)) (r : Bool) (w : World) (hr0 : Kd.C k26 w A0 l0.length l0) (hc0 : l0.length ≤ c0) (hr1 : Kd.C k26 w A1 l1.length l1) (hc1 : l1.length ≤ c1) (h : carillonlaw00_SameTlvs.f k l0 l1 = some r) :
    Calls Try.prog 24 #[.slice A0 l0.length c0, .slice A1 l1.length c1] w fun e w' => e = .returned (.bool r) ∧ Drawn0 w w' := by
  have hu26 := Try.underlying26
  have HR0 := Aside0.mk hr0
  have HC0 := Aside0.mk hc0
  clear hr0 hc0
  have HR1 := Aside0.mk hr1
  have HC1 := Aside0.mk hc1
  clear hr1 hc1
  have H : (if (l0.length : Int) = (l1.length : Int) then (carillonlaw00_SameTlvs.l0 k l0 l1 0) else (some false)) = some r := h
  clear h
  by_cases c3 : (l0.length : Int) = (l1.length : Int)
  · rw [if_pos c3] at H
    have c3b0 : ((l0.length : Int) == (l1.length : Int)) = true := beq_iff_eq.mpr c3
    have c3b1 : ((l0.length : Int) != (l1.length : Int)) = false := bne_eq_false_iff_eq.mpr c3
    have c3b2 : (l0.length == l1.length) = true := by first | simpa using c3 | (simp at c3 ⊢; omega)
    clear c3
    have H' := Aside0.mk H
    clear H
    go_enter Try.func24, Try.ntmps24
    go_wp2
    repeat (go_quiet (fail); try go_wp2)
    go_loopg [5] k (fun kq v5 w' => ∃ (x5_1 : Int), v5 = .int .i64 x5_1 ∧ Aside0 (carillonlaw00_SameTlvs.l0 kq l0 l1 x5_1 = some r) ∧ Aside0 (kq ≤ k) ∧ Drawn0 w w')
    case atStart => exact ⟨(0), (by first | rfl | (simp; done) | (simp [*]; done)), H', ⟨Nat.le_refl _⟩, by repeat (first | exact Drawn0.refl _ | apply Drawn0.step)⟩
    case round =>
      clear H'
      try clear c1
      try clear c2
      try clear p2
      try clear c3
      try clear c3b0
      try clear c3b1
      try clear c3b2
      obtain ⟨x5_1, rfl, HA, HK1, ⟨m1, rfl⟩⟩ := hrel
      cases gk with
      | zero => exact absurd HA.out (by simp [carillonlaw00_SameTlvs.l0])
      | succ k1 =>
        have H := HA.out
        clear HA
        simp only [carillonlaw00_SameTlvs.l0] at H
        by_cases c4 : x5_1 < (l0.length : Int)
        · rw [if_pos c4] at H
          have c4b0 : decide (x5_1 < (l0.length : Int)) = true := decide_eq_true c4
          clear c4
          by_cases c5 : 0 ≤ x5_1
          · rw [if_pos c5] at H
            have c5b0 : decide (0 ≤ x5_1) = true := decide_eq_true c5
            clear c5
            by_cases c6 : x5_1 < (l1.length : Int)
            · rw [if_pos c6] at H
              have c6b0 : decide (x5_1 < (l1.length : Int)) = true := decide_eq_true c6
              clear c6
              by_cases c7 : (!(((rd_T26 l0 x5_1).f0) == ((rd_T26 l1 x5_1).f0)) || (!((((rd_T26 l0 x5_1).f1).toList) == (((rd_T26 l1 x5_1).f1).toList)))) = true
              · rw [if_pos c7] at H
                have c7b0 : (!(((rd_T26 l0 x5_1).f0) == ((rd_T26 l1 x5_1).f0)) || (!((((rd_T26 l0 x5_1).f1).toList) == (((rd_T26 l1 x5_1).f1).toList)))) = true := c7
                clear c7
                obtain rfl := Option.some.inj H
                have p135 : 0 ≤ (x5_1 : Int) := of_decide_eq_true (by first | (with_reducible assumption) | assumption)
                have q135 : x5_1 < (l0.length : Int) := of_decide_eq_true (by first | (with_reducible assumption) | assumption)
                obtain ⟨ad135, e135, hx135_0, hx135_1⟩ := at_T26 HR0.out x5_1 p135 q135
                cases e135
                replace p135 := eq_true p135
                replace q135 := eq_true q135
                have p136 : 0 ≤ (x5_1 : Int) := of_decide_eq_true (by first | (with_reducible assumption) | assumption)
                have q136 : x5_1 < (l1.length : Int) := of_decide_eq_true (by first | (with_reducible assumption) | assumption)
                obtain ⟨ad136, e136, hx136_0, hx136_1⟩ := at_T26 HR1.out x5_1 p136 q136
                cases e136
                replace p136 := eq_true p136
                replace q136 := eq_true q136
                go_wp2
                repeat (go_quiet (fail); try go_wp2)
                all_goals
                  go_ret
                  exact ⟨by first | rfl | (simp; done) | (simp [*]; done), by repeat (first | exact Drawn0.refl _ | apply Drawn0.step)⟩
              · rw [if_neg c7] at H
                have c7b0 : (!(((rd_T26 l0 x5_1).f0) == ((rd_T26 l1 x5_1).f0)) || (!((((rd_T26 l0 x5_1).f1).toList) == (((rd_T26 l1 x5_1).f1).toList)))) = false := by simpa using c7
                clear c7
                have H' := Aside0.mk H
                clear H
                have p135 : 0 ≤ (x5_1 : Int) := of_decide_eq_true (by first | (with_reducible assumption) | assumption)
                have q135 : x5_1 < (l0.length : Int) := of_decide_eq_true (by first | (with_reducible assumption) | assumption)
                obtain ⟨ad135, e135, hx135_0, hx135_1⟩ := at_T26 HR0.out x5_1 p135 q135
                cases e135
                replace p135 := eq_true p135
                replace q135 := eq_true q135
                have p136 : 0 ≤ (x5_1 : Int) := of_decide_eq_true (by first | (with_reducible assumption) | assumption)
                have q136 : x5_1 < (l1.length : Int) := of_decide_eq_true (by first | (with_reducible assumption) | assumption)
                obtain ⟨ad136, e136, hx136_0, hx136_1⟩ := at_T26 HR1.out x5_1 p136 q136
                cases e136
                replace p136 := eq_true p136
                replace q136 := eq_true q136
                go_wp2
                repeat (go_quiet (fail); try go_wp2)
                go_roundg k1
                case measure => have := HK1.out; omega
                case rel => exact ⟨(wrap64 (x5_1 + 1)), (by first | rfl | (simp; done) | (simp [*]; done)), H', ⟨by have := HK1.out; omega⟩, by repeat (first | exact Drawn0.refl _ | apply Drawn0.step)⟩
            · rw [if_neg c6] at H
              exact absurd H (by simp)
          · rw [if_neg c5] at H
            exact absurd H (by simp)
        · rw [if_neg c4] at H
          have c4b0 : decide (x5_1 < (l0.length : Int)) = false := decide_eq_false c4
          clear c4
          obtain rfl := Option.some.inj H
          go_wp2
          repeat (go_quiet (fail); try go_wp2)
          all_goals
            go_ret
            exact ⟨by first | rfl | (simp; done) | (simp [*]; done), by repeat (first | exact Drawn0.refl _ | apply Drawn0.step)⟩
  · rw [if_neg c3] at H
    have c3b0 : ((l0.length : Int) == (l1.length : Int)) = false := beq_eq_false_iff_ne.mpr c3
    have c3b1 : ((l0.length : Int) != (l1.length : Int)) = true := bne_iff_ne.mpr c3
    have c3b2 : (l0.length == l1.length) = false := by first | simpa using c3 | (simp at c3 ⊢; omega)
    obtain rfl := Option.some.inj H
    go_enter Try.func24, Try.ntmps24
    go_wp2
    repeat (go_quiet (fail); try go_wp2)
    all_goals
      go_ret
      exact ⟨by first | rfl | (simp; done) | (simp [*]; done), by repeat (first | exact Drawn0.refl _ | apply Drawn0.step)⟩
/-! ### carillonlaw08_TlvGets: function 5: by our own printer -/
def carillonlaw08_TlvGets.f (k : Nat) (l0 : List Int) (a1 : Int) : Option (Bool) := (carillonlaw00_Bytes.f l0).bind fun t5 => ((tlv_Get.f k t5 a1).bind fun t6 => ((carillonref08_Get.f k l0 a1).bind fun t11 => ((carillonlaw00_SameTlvs.f k t6.1 t11.1).bind fun t16 => (if t16 = true then (if t6.2 = t11.2 then ((carillonlaw08_awake.f k ).bind fun t17 => (some t17)) else (some false)) else (some false)))))
open Go.Proofs.Ytgmiokocipmbaaa.E in
set_option maxHeartbeats 60000000 in
set_option maxRecDepth 100000 in
theorem carillonlaw08_TlvGets.calls (k : Nat) (A0 : Option Addr) (cp0 : Nat) (l0 : List Int) (a1 : Int) (w : World) (HR0 : Kd.C (Kd.int .u8) w A0 l0.length l0) (HC0 : l0.length ≤ cp0) (h : carillonlaw08_TlvGets.f k l0 a1 = some true) :
    Calls Try.prog 5 #[.slice A0 l0.length cp0, .int .i64 a1] w fun e w' => e = .returned (.bool true) ∧ Below w.heap.size w w' := by
  have H := h
  clear h
  unfold carillonlaw08_TlvGets.f at H
  obtain ⟨t5, At5, H⟩ := Option.bind_eq_some_iff.mp H
  obtain ⟨t6, At6, H⟩ := Option.bind_eq_some_iff.mp H
  obtain ⟨t6_1, t6_2⟩ := t6
  (try dsimp only at H)
  obtain ⟨t11, At11, H⟩ := Option.bind_eq_some_iff.mp H
  obtain ⟨t11_1, t11_2⟩ := t11
  (try dsimp only at H)
  obtain ⟨t16, At16, H⟩ := Option.bind_eq_some_iff.mp H
  by_cases c1 : t16 = true
  rotate_left
  · rw [if_neg c1] at H
    exact absurd H (by simp)
  rw [if_pos c1] at H
  by_cases c2 : t6_2 = t11_2
  rotate_left
  · rw [if_neg c2] at H
    exact absurd H (by simp)
  rw [if_pos c2] at H
  obtain ⟨t17, At17, H⟩ := Option.bind_eq_some_iff.mp H
  have hret := Option.some.inj H
  clear H
  refine calls_of_wp (fn := Try.f5) (by kernel_rfl) rfl ?_
  have hS := St.enter #[.slice A0 l0.length cp0, .int .i64 a1] 33 (by simp) [(0, .slice A0 l0.length cp0), (1, .int .i64 a1)] (by simp)
  have HB0 := Below.refl w.heap.size w
  refine wp_seq_k (fun K1 hK1 => ?_)
  refine reg_seq (N := 33) (bs := [(0, .slice A0 l0.length cp0), (1, .int .i64 a1)]) (I := fun x => Below w.heap.size w x) (ps := [VB false]) (by kernel_rfl) ?_ ?_ rfl hS HB0 ?_ ?_
  · exact fun x y hI hb => below_step hI hb
  · exact .v (.nil)
  · refine .on rfl (fun a w hS hI hp => does_val (x_assign rfl (rfl)) rfl) ?_
    exact .nil
  clear hS
  intro at2 w3 hS hI hp
  have hBw3_w := hI
  have hBw3_w3 := Below.refl w3.heap.size w3
  clear hp hI
  refine hK1 _ _ ?_
  (try clear hK1 K1)
  refine wp_seq_k (fun K4 hK4 => ?_)
  refine reg_seq (N := 33) (bs := [(0, .slice A0 l0.length cp0), (1, .int .i64 a1)]) (I := fun x => Below w.heap.size w x ∧ Below w3.heap.size w3 x) (ps := [IsV (.slice A0 l0.length cp0), IsR (Kd.int .u8) 5 w3.heap.size t5, VI a1, IsT (fun v0_ => #[v0_, .int .i64 t6_2]) (IsR k26 26 w3.heap.size t6_1), IsT (fun v0_ => #[v0_, .int .i64 t6_2]) (IsR k26 26 w3.heap.size t6_1), IsR k26 26 w3.heap.size t6_1, VI t6_2, IsR k26 26 w3.heap.size t6_1, VI t6_2]) (by kernel_rfl) ?_ ?_ rfl hS ⟨hBw3_w, hBw3_w3⟩ ?_ ?_
  · exact fun x y hI hb => ⟨below_step hI.1 hb, below_step hI.2 hb⟩
  · exact .v (.cons (Stays.r _ _ _ _) (.v (.cons (Stays.t _ (Stays.r _ _ _ _)) (.cons (Stays.t _ (Stays.r _ _ _ _)) (.cons (Stays.r _ _ _ _) (.v (.cons (Stays.r _ _ _ _) (.v (.nil)))))))))
  · refine .ms 0 rfl rfl rfl ?_
    refine .on rfl (fun a w hS hI hp => does_call (by kernel_rfl) (ar1 (hp.V 0 rfl rfl)) ((carillonlaw00_Bytes.calls _ _ l0 t5 _ (Kd.C_below HR0 hI.1) HC0 At5).mono fun _ _ h => h.elim fun v0 h => ⟨v0, h.1, h.2.2, Kd.R_lower h.2.1 hI.2.size⟩)) ?_
    refine .ms 1 rfl rfl rfl ?_
    refine .on rfl (fun a w hS hI hp => (IsC.of_r (hp.V 1 rfl rfl)).elim fun A_ h_ => h_.elim fun c_ h_ => h_.elim fun hv_ h_ => h_.elim fun hl_ hc_ => does_call (by kernel_rfl) (ar2 (hv_) (hp.V 2 rfl rfl)) ((tlv_Get.calls k _ _ t5 a1 t6_1 t6_2 _ hc_ hl_ At6).mono fun _ _ h => h.elim fun v0 h => ⟨_, h.1, h.2.2, v0, rfl, Kd.R_lower h.2.1 hI.2.size⟩)) ?_
    refine .on rfl (fun a w hS hI hp => does_val (x_move rfl rfl) (hp.V 3 rfl rfl)) ?_
    refine .on rfl (fun a w hS hI hp => (hp.V 4 rfl rfl).elim fun v0 h0 => does_val (x_extract rfl h0.1 rfl) h0.2) ?_
    refine .on rfl (fun a w hS hI hp => (hp.V 4 rfl rfl).elim fun v0 h0 => does_val (x_extract rfl h0.1 rfl) rfl) ?_
    refine .on rfl (fun a w hS hI hp => does_val (x_assign rfl rfl) (hp.V 5 rfl rfl)) ?_
    refine .asg 6 rfl rfl rfl rfl ?_
    exact .nil
  clear hS
  intro at7 w8 hS hI hp
  have hBw8_w := hI.1
  have hBw8_w3 := hI.2
  obtain ⟨A9, C9, hv5, hl9, hc9⟩ := Kd.R_reads (show Kd.R k26 26 w8 w3.heap.size (fun _ => True) (sl _ 5) t6_1 from hp 7 (by decide))
  have ho9 : Kd.R k26 26 w8 w3.heap.size (fun _ => True) (.slice A9 t6_1.length C9) t6_1 := hv5 ▸ (hp 7 (by decide))
  have hv6 : sl _ 6 = .int .i64 t6_2 := hp 8 (by decide)
  have hBw8_w8 := Below.refl w8.heap.size w8
  have hS := hS.cons hv5
  have hS := hS.cons hv6
  clear hp hI hv5 hv6
  refine hK4 _ _ ?_
  (try clear hK4 K4)
  refine wp_seq_k (fun K10 hK10 => ?_)
  refine reg_seq (N := 33) (bs := [(6, .int .i64 t6_2), (5, .slice A9 t6_1.length C9), (0, .slice A0 l0.length cp0), (1, .int .i64 a1)]) (I := fun x => Below w.heap.size w x ∧ Below w3.heap.size w3 x ∧ Below w8.heap.size w8 x) (ps := [IsV (.slice A0 l0.length cp0), VI a1, IsT (fun v0_ => #[v0_, .int .i64 t11_2]) (IsR k26 26 w8.heap.size t11_1), IsT (fun v0_ => #[v0_, .int .i64 t11_2]) (IsR k26 26 w8.heap.size t11_1), IsR k26 26 w8.heap.size t11_1, VI t11_2, IsR k26 26 w8.heap.size t11_1, VI t11_2]) (by kernel_rfl) ?_ ?_ rfl hS ⟨hBw8_w, hBw8_w3, hBw8_w8⟩ ?_ ?_
  · exact fun x y hI hb => ⟨below_step hI.1 hb, below_step hI.2.1 hb, below_step hI.2.2 hb⟩
  · exact .v (.v (.cons (Stays.t _ (Stays.r _ _ _ _)) (.cons (Stays.t _ (Stays.r _ _ _ _)) (.cons (Stays.r _ _ _ _) (.v (.cons (Stays.r _ _ _ _) (.v (.nil))))))))
  · refine .ms 2 rfl rfl rfl ?_
    refine .ms 3 rfl rfl rfl ?_
    refine .on rfl (fun a w hS hI hp => does_call (by kernel_rfl) (ar2 (hp.V 0 rfl rfl) (hp.V 1 rfl rfl)) ((carillonref08_Get.calls k _ _ l0 a1 t11_1 t11_2 _ (Kd.C_below HR0 hI.1) HC0 At11).mono fun _ _ h => h.elim fun v0 h => ⟨_, h.1, h.2.2, v0, rfl, Kd.R_lower h.2.1 hI.2.2.size⟩)) ?_
    refine .on rfl (fun a w hS hI hp => does_val (x_move rfl rfl) (hp.V 2 rfl rfl)) ?_
    refine .on rfl (fun a w hS hI hp => (hp.V 3 rfl rfl).elim fun v0 h0 => does_val (x_extract rfl h0.1 rfl) h0.2) ?_
    refine .on rfl (fun a w hS hI hp => (hp.V 3 rfl rfl).elim fun v0 h0 => does_val (x_extract rfl h0.1 rfl) rfl) ?_
    refine .on rfl (fun a w hS hI hp => does_val (x_assign rfl rfl) (hp.V 4 rfl rfl)) ?_
    refine .asg 5 rfl rfl rfl rfl ?_
    exact .nil
  clear hS
  intro at12 w13 hS hI hp
  have hBw13_w := hI.1
  have hBw13_w3 := hI.2.1
  have hBw13_w8 := hI.2.2
  replace hS := ((hS.nil).cons (hS.get 1 rfl)).cons (hS.get 0 rfl)
  obtain ⟨A14, C14, hv7, hl14, hc14⟩ := Kd.R_reads (show Kd.R k26 26 w13 w8.heap.size (fun _ => True) (sl _ 7) t11_1 from hp 6 (by decide))
  have ho14 : Kd.R k26 26 w13 w8.heap.size (fun _ => True) (.slice A14 t11_1.length C14) t11_1 := hv7 ▸ (hp 6 (by decide))
  have hv8 : sl _ 8 = .int .i64 t11_2 := hp 7 (by decide)
  have hBw13_w13 := Below.refl w13.heap.size w13
  have hS := hS.cons hv7
  have hS := hS.cons hv8
  clear hp hI hv7 hv8
  refine hK10 _ _ ?_
  (try clear hK10 K10)
  refine wp_seq_k (fun K15 hK15 => ?_)
  refine reg_seq (N := 33) (bs := [(8, .int .i64 t11_2), (7, .slice A14 t11_1.length C14), (6, .int .i64 t6_2), (5, .slice A9 t6_1.length C9)]) (I := fun x => Below w.heap.size w x ∧ Below w3.heap.size w3 x ∧ Below w8.heap.size w8 x ∧ Below w13.heap.size w13 x) (ps := [IsV (.slice A9 t6_1.length C9), IsV (.slice A14 t11_1.length C14), VB t16, VB t16, VI t6_2, VI t11_2, VB (decide (t6_2 = t11_2)), VB (decide (t6_2 = t11_2)), VB (decide (t6_2 = t11_2)), VB t17, VB t17, VB t17]) (by kernel_rfl) ?_ ?_ rfl hS ⟨hBw13_w, hBw13_w3, hBw13_w8, hBw13_w13⟩ ?_ ?_
  · exact fun x y hI hb => ⟨below_step hI.1 hb, below_step hI.2.1 hb, below_step hI.2.2.1 hb, below_step hI.2.2.2 hb⟩
  · exact .v (.v (.v (.v (.v (.v (.v (.v (.v (.v (.v (.v (.nil))))))))))))
  · refine .ms 3 rfl rfl rfl ?_
    refine .ms 1 rfl rfl rfl ?_
    refine .on rfl (fun a w hS hI hp => does_call (by kernel_rfl) (ar2 (hp.V 0 rfl rfl) (hp.V 1 rfl rfl)) ((carillonlaw00_SameTlvs.calls k _ _ t6_1 _ _ t11_1 t16 _ (Kd.C_below hc9 hI.2.2.1) hl9 (Kd.C_below hc14 hI.2.2.2) hl14 At16).mono fun _ _ h => ⟨_, h.1, h.2.below, rfl⟩)) ?_
    refine .mv 2 rfl rfl rfl rfl ?_
    refine .oy 3 25 rfl rfl rfl rfl rfl c1 (fun a w hS hI hp => does_val (x_move rfl (hS.get 2 rfl)) rfl) ?_
    refine .oy 3 25 rfl rfl rfl rfl rfl c1 (fun a w hS hI hp => does_val (x_move rfl (hS.get 0 rfl)) rfl) ?_
    refine .oy 3 25 rfl rfl rfl rfl rfl c1 (fun a w hS hI hp => does_val (x_bin rfl (hp.V 4 rfl rfl) (hp.V 5 rfl rfl) (b_eql _ _ _ _ _ _)) rfl) ?_
    refine .pt 3 6 rfl rfl rfl rfl c1 rfl rfl ?_
    refine .mv 7 rfl rfl rfl rfl ?_
    refine .oy 8 30 rfl rfl rfl rfl rfl ((decide_eq_true c2)) (fun a w hS hI hp => does_call (by kernel_rfl) rfl ((carillonlaw08_awake.calls k  t17 _  At17).mono fun _ _ h => ⟨_, h.1, h.2, rfl⟩)) ?_
    refine .pt 8 9 rfl rfl rfl rfl ((decide_eq_true c2)) rfl rfl ?_
    refine .asg 10 rfl rfl rfl rfl ?_
    exact .nil
  clear hS
  intro at18 w19 hS hI hp
  have hBw19_w := hI.1
  have hBw19_w3 := hI.2.1
  have hBw19_w8 := hI.2.2.1
  have hBw19_w13 := hI.2.2.2
  replace hS := hS.nil
  have hv4 : sl _ 4 = .bool t17 := hp 11 (by decide)
  have hBw19_w19 := Below.refl w19.heap.size w19
  have hS := hS.cons hv4
  clear hp hI hv4
  refine hK15 _ _ ?_
  (try clear hK15 K15)
  refine wp_ret ?_
  (try simp only [Exit.then, Exit.inBlock, Exit.jump, Exit.noGoto])
  exact bodyPost_ret (v := .bool true) (by rw [results_tmp rfl]; exact congrArg (Result.ok · _) ((hS.get 0 rfl).trans (congrArg Value.bool hret))) hS.nodef ⟨rfl, hBw19_w⟩
def carillonlaw08_TlvGets.Pure : Prop := ∀ (l0 : List Int) (a1 : Int), l0.length ≤ maxLen → l0.length * 1 ≤ 140737488351232 → (∀ x ∈ l0, (Lit.int .u8 x).wf = true) → (Lit.int .i64 a1).wf = true → ∃ k, carillonlaw08_TlvGets.f k l0 a1 = some true
theorem carillonlaw08_TlvGets.walk (P : carillonlaw08_TlvGets.Pure) (a0 : Option Addr) (len0 cap0 : Nat) (z0 : List Int) (a1 : Int) (w : World) (w0 : (a0 = none ∧ len0 = 0 ∧ cap0 = 0 ∧ z0 = []) ∨ ∃ x, a0 = some x ∧ len0 ≤ cap0 ∧ cap0 ≤ maxLen ∧ z0.length = cap0 ∧ (∀ i, i < z0.length → w.cell? (x.add i) = some (.int .u8 (z0.getD i 0))) ∧ ∀ n ∈ z0, (Lit.int .u8 n).wf = true) (y0 : len0 * 1 ≤ 140737488351232) (w1 : (Lit.int .i64 a1).wf = true) :
    Calls Try.prog 5 #[.slice a0 len0 cap0, .int .i64 a1] w fun e w' => e = .returned (.bool true) ∧ Below w.heap.size w w' := by
  obtain ⟨l0, rfl, hr0, hm0, hw0, hc0⟩ := ReadsInt.ofRowC w0
  obtain ⟨k, h⟩ := P l0 a1 hm0 y0 hw0 w1
  refine (carillonlaw08_TlvGets.calls k _ _ l0 a1 w (Kd.C_of_reads (d := (0 : Int)) (h1 := fun _ => rfl) hr0) hc0 h).mono ?_
  rintro e w' ⟨rfl, hd⟩
  exact ⟨rfl, hd⟩
/-! ### carillonlaw00_Place: function 25 -/
/-! ### carillonlaw08_TlvCuts: function 6: by our own printer -/
end Go.Proofs.Ytgmiokocipmbaaa.P
