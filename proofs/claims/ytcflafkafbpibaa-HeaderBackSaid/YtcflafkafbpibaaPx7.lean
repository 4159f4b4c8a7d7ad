/- Functions and loops of the given program as Lean functions, and that the code comes to what they say: written by this session's own program; Lean checks it. -/
import Derived.Test.YtcflafkafbpibaaPx0
import Derived.Test.YtcflafkafbpibaaPx3
import Derived.Test.YtcflafkafbpibaaPx4
import Derived.Test.YtcflafkafbpibaaPx6
namespace Go.Proofs.Ytcflafkafbpibaa.P
open Go.RowKit Go.Proofs.YtcflafkafbpibaaW.PrintWords Go.Proofs.YtcflafkafbpibaaW.PrintLast Go.Proofs.YtcflafkafbpibaaW.PrintMore
attribute [local go_sem] max2_int min2_int max_two min_two max_three min_three max_four min_four   -- for this text's walks alone
set_option linter.unusedVariables false
set_option linter.unusedSimpArgs false

/-! ### carillonlaw00_Place: function 20 -/
def carillonlaw00_Place.f (a0 : Int) (a1 : Int) : Option (Int) := if a1 = 0 then (none) else (if (Int.tmod a0 a1) < 0 then (some (wrap64 ((Int.tmod a0 a1) + a1))) else (some (Int.tmod a0 a1)))
set_option maxHeartbeats 8000000 in
set_option maxRecDepth 100000 in
theorem carillonlaw00_Place.calls (a0 : Int) (a1 : Int) (r : Int) (w : World) (h : carillonlaw00_Place.f a0 a1 = some r) :
    Calls Try.prog 20 #[.int .i64 a0, .int .i64 a1] w fun e w' => e = .returned (.int .i64 r) ∧ Drawn0 w w' := by
  have H : (if a1 = 0 then (none) else (if (Int.tmod a0 a1) < 0 then (some (wrap64 ((Int.tmod a0 a1) + a1))) else (some (Int.tmod a0 a1)))) = some r := h
  clear h
  by_cases c3 : a1 = 0
  · rw [if_pos c3] at H
    exact absurd H (by simp)
  · rw [if_neg c3] at H
    have c3b0 : (a1 == 0) = false := beq_eq_false_iff_ne.mpr c3
    have c3b1 : (a1 != 0) = true := bne_iff_ne.mpr c3
    by_cases c4 : (Int.tmod a0 a1) < 0
    · rw [if_pos c4] at H
      have c4b0 : decide ((Int.tmod a0 a1) < 0) = true := decide_eq_true c4
      clear c4
      obtain rfl := Option.some.inj H
      go_enter Try.func20, Try.ntmps20
      go_wp2
      all_goals
        go_ret
        exact ⟨by first | rfl | (simp; done) | (simp [*]; done), by repeat (first | exact Drawn0.refl _ | apply Drawn0.step)⟩
    · rw [if_neg c4] at H
      have c4b0 : decide ((Int.tmod a0 a1) < 0) = false := decide_eq_false c4
      clear c4
      obtain rfl := Option.some.inj H
      go_enter Try.func20, Try.ntmps20
      go_wp2
      all_goals
        go_ret
        exact ⟨by first | rfl | (simp; done) | (simp [*]; done), by repeat (first | exact Drawn0.refl _ | apply Drawn0.step)⟩

/-! ### carillonlaw06_HeaderBack: function 7: by our own printer -/
def carillonlaw06_HeaderBack.f (k : Nat) (a0_0 : Int) (a0_1 : Int) (a0_2 : Int) (a0_3 : Int) (a0_4 : Int) (a0_5 : Int) (a0_6 : Int) (a0_7 : Int) (a0_8 : Int) (a0_9 : Int) (a0_10 : Int) (a0_11 : Int) (a0_12 : Int) (a0_13 : Int) (a0_14 : Int) (a0_15 : Int) (a0_16 : Int) (a0_17 : Int) (a0_18 : Int) (a0_19 : Int) (a0_20 : Int) (a0_21 : Int) (a0_22 : Int) (a1 : Int) : Option (Bool) := (carillonlaw00_Place.f a1 367).bind fun t6 => ((header_Put.f k a0_0 a0_1 a0_2 a0_3 a0_4 a0_5 a0_6 a0_7 a0_8 a0_9 a0_10 a0_11 a0_12 a0_13 a0_14 a0_15 a0_16 a0_17 a0_18 a0_19 a0_20 a0_21 a0_22 (wrap64 (34 + t6))).bind fun t10 => (if t10.2 = true then (if 0 ≤ (wrap64 ((wrap64 (34 + t6)) - 34)) then (if (t10.1.length + (wrap64 ((wrap64 (34 + t6)) - 34) : Int).toNat) * 1 ≤ 140737488355328 then ((header_Get.f k (t10.1 ++ List.replicate (wrap64 ((wrap64 (34 + t6)) - 34) : Int).toNat 0 : List Int)).bind fun t25 => (if t25.2.2.2.2.2.2.2.2.2.2.2.2.2.2.2.2.2.2.2.2.2.2.2.2 = 0 then (if t25.2.2.2.2.2.2.2.2.2.2.2.2.2.2.2.2.2.2.2.2.2.2.2.1 = (wrap64 (34 + t6)) then (if ((t25.1 == a0_0) && ((t25.2.1 == a0_1) && ((t25.2.2.1 == a0_2) && ((t25.2.2.2.1 == a0_3) && ((t25.2.2.2.2.1 == a0_4) && ((t25.2.2.2.2.2.1 == a0_5) && ((t25.2.2.2.2.2.2.1 == a0_6) && ((t25.2.2.2.2.2.2.2.1 == a0_7) && ((t25.2.2.2.2.2.2.2.2.1 == 0) && ((t25.2.2.2.2.2.2.2.2.2.1 == 0) && ((t25.2.2.2.2.2.2.2.2.2.2.1 == 0) && ((t25.2.2.2.2.2.2.2.2.2.2.2.1 == 0) && ((t25.2.2.2.2.2.2.2.2.2.2.2.2.1 == 0) && ((t25.2.2.2.2.2.2.2.2.2.2.2.2.2.1 == 0) && ((t25.2.2.2.2.2.2.2.2.2.2.2.2.2.2.1 == 0) && ((t25.2.2.2.2.2.2.2.2.2.2.2.2.2.2.2.1 == 0) && ((t25.2.2.2.2.2.2.2.2.2.2.2.2.2.2.2.2.1 == 0) && ((t25.2.2.2.2.2.2.2.2.2.2.2.2.2.2.2.2.2.1 == 0) && ((t25.2.2.2.2.2.2.2.2.2.2.2.2.2.2.2.2.2.2.1 == 0) && ((t25.2.2.2.2.2.2.2.2.2.2.2.2.2.2.2.2.2.2.2.1 == 0) && ((t25.2.2.2.2.2.2.2.2.2.2.2.2.2.2.2.2.2.2.2.2.1 == 0) && ((t25.2.2.2.2.2.2.2.2.2.2.2.2.2.2.2.2.2.2.2.2.2.1 == 0) && (t25.2.2.2.2.2.2.2.2.2.2.2.2.2.2.2.2.2.2.2.2.2.2.1 == 0))))))))))))))))))))))) = true then ((carillonlaw06_awake.f k ).bind fun t49 => (some t49)) else (some false)) else (some false)) else (some false))) else (none)) else (none)) else (if (t10.1.length : Int) = 0 then ((carillonlaw06_awake.f k ).bind fun t19 => (some t19)) else (some false))))
open Go.Proofs.Ytcflafkafbpibaa.E in
set_option maxRecDepth 100000 in
theorem carillonlaw06_HeaderBack.eql28 (x y : Operand) (w : World) (a0 a1 a2 a3 a4 a5 a6 a7 a8 a9 a10 a11 a12 a13 a14 a15 a16 a17 a18 a19 a20 a21 a22 b0 b1 b2 b3 b4 b5 b6 b7 b8 b9 b10 b11 b12 b13 b14 b15 b16 b17 b18 b19 b20 b21 b22 : Int) : (do eqGuard .eql 28 x y (.agg #[.int .i64 a0, .int .i64 a1, .int .i64 a2, .int .i64 a3, .int .u64 a4, .int .i64 a5, .int .i64 a6, .int .i64 a7, .int .i64 a8, .int .u64 a9, .int .i64 a10, .int .i64 a11, .int .i64 a12, .int .i64 a13, .int .i64 a14, .int .i64 a15, .int .i64 a16, .int .u64 a17, .int .i64 a18, .int .i64 a19, .int .i64 a20, .int .i64 a21, .int .i64 a22]) (.agg #[.int .i64 b0, .int .i64 b1, .int .i64 b2, .int .i64 b3, .int .u64 b4, .int .i64 b5, .int .i64 b6, .int .i64 b7, .int .i64 b8, .int .u64 b9, .int .i64 b10, .int .i64 b11, .int .i64 b12, .int .i64 b13, .int .i64 b14, .int .i64 b15, .int .i64 b16, .int .u64 b17, .int .i64 b18, .int .i64 b19, .int .i64 b20, .int .i64 b21, .int .i64 b22]); binOp .eql 28 (.agg #[.int .i64 a0, .int .i64 a1, .int .i64 a2, .int .i64 a3, .int .u64 a4, .int .i64 a5, .int .i64 a6, .int .i64 a7, .int .i64 a8, .int .u64 a9, .int .i64 a10, .int .i64 a11, .int .i64 a12, .int .i64 a13, .int .i64 a14, .int .i64 a15, .int .i64 a16, .int .u64 a17, .int .i64 a18, .int .i64 a19, .int .i64 a20, .int .i64 a21, .int .i64 a22]) (.agg #[.int .i64 b0, .int .i64 b1, .int .i64 b2, .int .i64 b3, .int .u64 b4, .int .i64 b5, .int .i64 b6, .int .i64 b7, .int .i64 b8, .int .u64 b9, .int .i64 b10, .int .i64 b11, .int .i64 b12, .int .i64 b13, .int .i64 b14, .int .i64 b15, .int .i64 b16, .int .u64 b17, .int .i64 b18, .int .i64 b19, .int .i64 b20, .int .i64 b21, .int .i64 b22]) : Sem Value).run Try.prog w = .ok (.bool ((a0 == b0) && ((a1 == b1) && ((a2 == b2) && ((a3 == b3) && ((a4 == b4) && ((a5 == b5) && ((a6 == b6) && ((a7 == b7) && ((a8 == b8) && ((a9 == b9) && ((a10 == b10) && ((a11 == b11) && ((a12 == b12) && ((a13 == b13) && ((a14 == b14) && ((a15 == b15) && ((a16 == b16) && ((a17 == b17) && ((a18 == b18) && ((a19 == b19) && ((a20 == b20) && ((a21 == b21) && (a22 == b22)))))))))))))))))))))))) w := by
  have hu3 := Try.underlying3
  have hu22 := Try.underlying22
  have hu24 := Try.underlying24
  have hu26 := Try.underlying26
  have hu28 := Try.underlying28
  conv => lhs; simp [eqGuard, go_sem, hu3, hu22, hu24, hu26, hu28]
  exact ite_and (ite_and (ite_and (ite_and (ite_and (ite_and (ite_and (ite_and (ite_and (ite_and (ite_and (ite_and (ite_and (ite_and (ite_and (ite_and (ite_and (ite_and (ite_and (ite_and (ite_and (ite_and (ite_last))))))))))))))))))))))
open Go.Proofs.Ytcflafkafbpibaa.E in
set_option maxHeartbeats 8000000 in
set_option maxRecDepth 100000 in
theorem carillonlaw06_HeaderBack.calls (k : Nat) (a0_0 : Int) (a0_1 : Int) (a0_2 : Int) (a0_3 : Int) (a0_4 : Int) (a0_5 : Int) (a0_6 : Int) (a0_7 : Int) (a0_8 : Int) (a0_9 : Int) (a0_10 : Int) (a0_11 : Int) (a0_12 : Int) (a0_13 : Int) (a0_14 : Int) (a0_15 : Int) (a0_16 : Int) (a0_17 : Int) (a0_18 : Int) (a0_19 : Int) (a0_20 : Int) (a0_21 : Int) (a0_22 : Int) (a1 : Int) (w : World) (h : carillonlaw06_HeaderBack.f k a0_0 a0_1 a0_2 a0_3 a0_4 a0_5 a0_6 a0_7 a0_8 a0_9 a0_10 a0_11 a0_12 a0_13 a0_14 a0_15 a0_16 a0_17 a0_18 a0_19 a0_20 a0_21 a0_22 a1 = some true) :
    Calls Try.prog 7 #[.agg #[.int .i64 a0_0, .int .i64 a0_1, .int .i64 a0_2, .int .i64 a0_3, .int .u64 a0_4, .int .i64 a0_5, .int .i64 a0_6, .int .i64 a0_7, .int .i64 a0_8, .int .u64 a0_9, .int .i64 a0_10, .int .i64 a0_11, .int .i64 a0_12, .int .i64 a0_13, .int .i64 a0_14, .int .i64 a0_15, .int .i64 a0_16, .int .u64 a0_17, .int .i64 a0_18, .int .i64 a0_19, .int .i64 a0_20, .int .i64 a0_21, .int .i64 a0_22], .int .i64 a1] w fun e w' => e = .returned (.bool true) ∧ Below w.heap.size w w' := by
  have H := h
  clear h
  unfold carillonlaw06_HeaderBack.f at H
  obtain ⟨t6, At6, H⟩ := Option.bind_eq_some_iff.mp H
  obtain ⟨t10, At10, H⟩ := Option.bind_eq_some_iff.mp H
  obtain ⟨t10_1, t10_2⟩ := t10
  (try dsimp only at H)
  by_cases c1 : t10_2 = true
  · rw [if_pos c1] at H
    by_cases c2 : 0 ≤ (wrap64 ((wrap64 (34 + t6)) - 34))
    · rw [if_pos c2] at H
      by_cases c3 : (t10_1.length + (wrap64 ((wrap64 (34 + t6)) - 34) : Int).toNat) * 1 ≤ 140737488355328
      · rw [if_pos c3] at H
        obtain ⟨t25, At25, H⟩ := Option.bind_eq_some_iff.mp H
        obtain ⟨t25_1, t25_2, t25_3, t25_4, t25_5, t25_6, t25_7, t25_8, t25_9, t25_10, t25_11, t25_12, t25_13, t25_14, t25_15, t25_16, t25_17, t25_18, t25_19, t25_20, t25_21, t25_22, t25_23, t25_24, t25_25⟩ := t25
        (try dsimp only at H)
        by_cases c4 : t25_25 = 0
        · rw [if_pos c4] at H
          by_cases c5 : t25_24 = (wrap64 (34 + t6))
          · rw [if_pos c5] at H
            by_cases c6 : ((t25_1 == a0_0) && ((t25_2 == a0_1) && ((t25_3 == a0_2) && ((t25_4 == a0_3) && ((t25_5 == a0_4) && ((t25_6 == a0_5) && ((t25_7 == a0_6) && ((t25_8 == a0_7) && ((t25_9 == 0) && ((t25_10 == 0) && ((t25_11 == 0) && ((t25_12 == 0) && ((t25_13 == 0) && ((t25_14 == 0) && ((t25_15 == 0) && ((t25_16 == 0) && ((t25_17 == 0) && ((t25_18 == 0) && ((t25_19 == 0) && ((t25_20 == 0) && ((t25_21 == 0) && ((t25_22 == 0) && (t25_23 == 0))))))))))))))))))))))) = true
            · rw [if_pos c6] at H
              obtain ⟨t49, At49, H⟩ := Option.bind_eq_some_iff.mp H
              have hret := Option.some.inj H
              clear H
              refine calls_of_wp (fn := Try.f7) (by kernel_rfl) rfl ?_
              have hS := St.enter #[.agg #[.int .i64 a0_0, .int .i64 a0_1, .int .i64 a0_2, .int .i64 a0_3, .int .u64 a0_4, .int .i64 a0_5, .int .i64 a0_6, .int .i64 a0_7, .int .i64 a0_8, .int .u64 a0_9, .int .i64 a0_10, .int .i64 a0_11, .int .i64 a0_12, .int .i64 a0_13, .int .i64 a0_14, .int .i64 a0_15, .int .i64 a0_16, .int .u64 a0_17, .int .i64 a0_18, .int .i64 a0_19, .int .i64 a0_20, .int .i64 a0_21, .int .i64 a0_22], .int .i64 a1] 68 (by simp) [(0, .agg #[.int .i64 a0_0, .int .i64 a0_1, .int .i64 a0_2, .int .i64 a0_3, .int .u64 a0_4, .int .i64 a0_5, .int .i64 a0_6, .int .i64 a0_7, .int .i64 a0_8, .int .u64 a0_9, .int .i64 a0_10, .int .i64 a0_11, .int .i64 a0_12, .int .i64 a0_13, .int .i64 a0_14, .int .i64 a0_15, .int .i64 a0_16, .int .u64 a0_17, .int .i64 a0_18, .int .i64 a0_19, .int .i64 a0_20, .int .i64 a0_21, .int .i64 a0_22]), (1, .int .i64 a1)] (by simp)
              have HB0 := Below.refl w.heap.size w
              refine wp_seq_k (fun K1 hK1 => ?_)
              refine reg_seq (N := 68) (bs := [(0, .agg #[.int .i64 a0_0, .int .i64 a0_1, .int .i64 a0_2, .int .i64 a0_3, .int .u64 a0_4, .int .i64 a0_5, .int .i64 a0_6, .int .i64 a0_7, .int .i64 a0_8, .int .u64 a0_9, .int .i64 a0_10, .int .i64 a0_11, .int .i64 a0_12, .int .i64 a0_13, .int .i64 a0_14, .int .i64 a0_15, .int .i64 a0_16, .int .u64 a0_17, .int .i64 a0_18, .int .i64 a0_19, .int .i64 a0_20, .int .i64 a0_21, .int .i64 a0_22]), (1, .int .i64 a1)]) (I := fun x => Below w.heap.size w x) (ps := [IsB #[.int .i64 a0_0, .int .i64 a0_1, .int .i64 a0_2, .int .i64 a0_3, .int .u64 a0_4, .int .i64 a0_5, .int .i64 a0_6, .int .i64 a0_7, .int .i64 a0_8, .int .u64 a0_9, .int .i64 a0_10, .int .i64 a0_11, .int .i64 a0_12, .int .i64 a0_13, .int .i64 a0_14, .int .i64 a0_15, .int .i64 a0_16, .int .u64 a0_17, .int .i64 a0_18, .int .i64 a0_19, .int .i64 a0_20, .int .i64 a0_21, .int .i64 a0_22] 28 w.heap.size, IsV (.bool false)]) (by kernel_rfl) ?_ ?_ rfl hS HB0 ?_ ?_
              · exact fun x y hI hb => below_step hI hb
              · exact AllStay.cons (Stays.b _ _ _) (AllStay.cons (Stays.v _) (AllStay.nil))
              · refine Steps.cons (fun a w hS hI hp => ok_on rfl (does_var (x_box rfl (congrArg Value.cells (hS.get 0 rfl))) (hI).size)) ?_
                refine Steps.cons (fun a w hS hI hp => ok_on rfl (does_val (x_assign rfl (rfl)) rfl)) ?_
                exact Steps.nil
              clear hS
              intro at2 w3 hS hI hp
              have hBw3_w := hI
              replace hS := (hS.nil).cons (hS.get 1 rfl)
              obtain ⟨g4, hv2, hgeg4, hbxg4⟩ := (show IsB _ 28 _ (sl _ 2) _ from hp 0 (by decide))
              have hv4 : sl _ 4 = .bool false := hp 1 (by decide)
              have hBw3_w3 := Below.refl w3.heap.size w3
              have hS := hS.cons hv2
              have hS := hS.cons hv4
              clear hp hI hv2 hv4
              refine hK1 _ _ ?_
              clear hK1 K1
              refine wp_seq_k (fun K5 hK5 => ?_)
              refine reg_seq (N := 68) (bs := [(4, .bool false), (2, .pointer (some ⟨g4, 0, none⟩)), (1, .int .i64 a1)]) (I := fun x => Below w.heap.size w x ∧ Below w3.heap.size w3 x) (ps := [IsV (.int .i64 a1), IsV (.int .i64 t6), IsV (.int .i64 (wrap64 (34 + t6))), IsV (.int .i64 (wrap64 (34 + t6)))]) (by kernel_rfl) ?_ ?_ rfl hS ⟨hBw3_w, hBw3_w3⟩ ?_ ?_
              · exact fun x y hI hb => ⟨below_step hI.1 hb, below_step hI.2 hb⟩
              · exact AllStay.cons (Stays.v _) (AllStay.cons (Stays.v _) (AllStay.cons (Stays.v _) (AllStay.cons (Stays.v _) (AllStay.nil))))
              · refine Steps.cons (fun a w hS hI hp => ok_on rfl (does_val (x_move rfl (hS.get 2 rfl)) rfl)) ?_
                refine Steps.cons (fun a w hS hI hp => ok_on rfl (does_call (by kernel_rfl) (ar2 ((hp.get 0 (by rfl) rfl rfl)) (rfl)) ((carillonlaw00_Place.calls a1 367 t6 _  At6).mono fun _ _ h => ⟨_, h.1, h.2.below, rfl⟩))) ?_
                refine Steps.cons (fun a w hS hI hp => ok_on rfl (does_val (x_bin rfl (rfl) ((hp.get 1 (by rfl) rfl rfl)) (b_add _ _ _ _ _)) rfl)) ?_
                refine Steps.cons (fun a w hS hI hp => ok_on rfl (does_val (x_assign rfl ((hp.get 2 (by rfl) rfl rfl))) rfl)) ?_
                exact Steps.nil
              clear hS
              intro at7 w8 hS hI hp
              have hBw8_w := hI.1
              have hBw8_w3 := hI.2
              replace hS := ((hS.nil).cons (hS.get 1 rfl)).cons (hS.get 0 rfl)
              have hv5 : sl _ 5 = .int .i64 (wrap64 (34 + t6)) := hp 3 (by decide)
              have hBw8_w8 := Below.refl w8.heap.size w8
              have hS := hS.cons hv5
              clear hp hI hv5
              refine hK5 _ _ ?_
              clear hK5 K5
              refine wp_seq_k (fun K9 hK9 => ?_)
              refine reg_seq (N := 68) (bs := [(5, .int .i64 (wrap64 (34 + t6))), (4, .bool false), (2, .pointer (some ⟨g4, 0, none⟩))]) (I := fun x => Below w.heap.size w x ∧ Below w3.heap.size w3 x ∧ Below w8.heap.size w8 x) (ps := [IsV (.agg #[.int .i64 a0_0, .int .i64 a0_1, .int .i64 a0_2, .int .i64 a0_3, .int .u64 a0_4, .int .i64 a0_5, .int .i64 a0_6, .int .i64 a0_7, .int .i64 a0_8, .int .u64 a0_9, .int .i64 a0_10, .int .i64 a0_11, .int .i64 a0_12, .int .i64 a0_13, .int .i64 a0_14, .int .i64 a0_15, .int .i64 a0_16, .int .u64 a0_17, .int .i64 a0_18, .int .i64 a0_19, .int .i64 a0_20, .int .i64 a0_21, .int .i64 a0_22]), IsV (.int .i64 (wrap64 (34 + t6))), IsTR (Kd.int .u8) 5 w8.heap.size t10_1 [.bool t10_2], IsTR (Kd.int .u8) 5 w8.heap.size t10_1 [.bool t10_2], IsR (Kd.int .u8) 5 w8.heap.size t10_1, IsV (.bool t10_2), IsR (Kd.int .u8) 5 w8.heap.size t10_1, IsV (.bool t10_2)]) (by kernel_rfl) ?_ ?_ rfl hS ⟨hBw8_w, hBw8_w3, hBw8_w8⟩ ?_ ?_
              · exact fun x y hI hb => ⟨below_step hI.1 hb, below_step hI.2.1 hb, below_step hI.2.2 hb⟩
              · exact AllStay.cons (Stays.v _) (AllStay.cons (Stays.v _) (AllStay.cons (Stays.tr _ _ _ _ _) (AllStay.cons (Stays.tr _ _ _ _ _) (AllStay.cons (Stays.r _ _ _ _) (AllStay.cons (Stays.v _) (AllStay.cons (Stays.r _ _ _ _) (AllStay.cons (Stays.v _) (AllStay.nil))))))))
              · refine Steps.cons (fun a w hS hI hp => ok_on rfl (does_loadrow rfl (hS.get 2 rfl) (((hI.2.1).block g4 (blk_lt hbxg4)).trans hbxg4) Try.underlying28 rfl (by kernel_rfl) rfl)) ?_
                refine Steps.cons (fun a w hS hI hp => ok_on rfl (does_val (x_move rfl (hS.get 0 rfl)) rfl)) ?_
                refine Steps.cons (fun a w hS hI hp => ok_on rfl (does_call (by kernel_rfl) (ar2 ((hp.get 0 (by rfl) rfl rfl)) ((hp.get 1 (by rfl) rfl rfl))) ((header_Put.calls k a0_0 a0_1 a0_2 a0_3 a0_4 a0_5 a0_6 a0_7 a0_8 a0_9 a0_10 a0_11 a0_12 a0_13 a0_14 a0_15 a0_16 a0_17 a0_18 a0_19 a0_20 a0_21 a0_22 (wrap64 (34 + t6)) t10_1 t10_2 _  At10).mono fun _ _ h => h.elim fun v0 h => ⟨_, h.1, h.2.2, v0, rfl, Kd.R_lower h.2.1 hI.2.2.size⟩))) ?_
                refine Steps.cons (fun a w hS hI hp => ok_on rfl (does_val (x_move rfl rfl) ((hp.get 2 (by rfl) rfl rfl)))) ?_
                refine Steps.cons (fun a w hS hI hp => ok_on rfl (((hp.get 3 (by rfl) rfl rfl)).elim fun v0 h0 => does_val (x_extract rfl h0.1 rfl) h0.2)) ?_
                refine Steps.cons (fun a w hS hI hp => ok_on rfl (((hp.get 3 (by rfl) rfl rfl)).elim fun v0 h0 => does_val (x_extract rfl h0.1 rfl) rfl)) ?_
                refine Steps.cons (fun a w hS hI hp => ok_on rfl (does_val (x_assign rfl rfl) ((hp.get 4 (by rfl) rfl rfl)))) ?_
                refine Steps.cons (fun a w hS hI hp => ok_on rfl (does_val (x_assign rfl ((hp.get 5 (by rfl) rfl rfl))) rfl)) ?_
                exact Steps.nil
              clear hS
              intro at11 w12 hS hI hp
              have hBw12_w := hI.1
              have hBw12_w3 := hI.2.1
              have hBw12_w8 := hI.2.2
              obtain ⟨A13, C13, hv6, hl13, hc13⟩ := Kd.R_reads (show Kd.R (Kd.int .u8) 5 w12 w8.heap.size (fun _ => True) (sl _ 6) t10_1 from hp 6 (by decide))
              have ho13 : Kd.R (Kd.int .u8) 5 w12 w8.heap.size (fun _ => True) (.slice A13 t10_1.length C13) t10_1 := hv6 ▸ (hp 6 (by decide))
              have hv7 : sl _ 7 = .bool t10_2 := hp 7 (by decide)
              have hBw12_w12 := Below.refl w12.heap.size w12
              have hS := hS.cons hv6
              have hS := hS.cons hv7
              clear hp hI hv6 hv7
              refine hK9 _ _ ?_
              clear hK9 K9
              refine wp_seq_k (fun K14 hK14 => ?_)
              refine wp_seq_k (fun K15 hK15 => ?_)
              refine reg_seq (N := 68) (bs := [(7, .bool t10_2), (6, .slice A13 t10_1.length C13), (5, .int .i64 (wrap64 (34 + t6))), (4, .bool false), (2, .pointer (some ⟨g4, 0, none⟩))]) (I := fun x => Below w.heap.size w x ∧ Below w3.heap.size w3 x ∧ Below w8.heap.size w8 x ∧ Below w12.heap.size w12 x) (ps := [IsV (.bool t10_2), IsV (.bool (!t10_2))]) (by kernel_rfl) ?_ ?_ rfl hS ⟨hBw12_w, hBw12_w3, hBw12_w8, hBw12_w12⟩ ?_ ?_
              · exact fun x y hI hb => ⟨below_step hI.1 hb, below_step hI.2.1 hb, below_step hI.2.2.1 hb, below_step hI.2.2.2 hb⟩
              · exact AllStay.cons (Stays.v _) (AllStay.cons (Stays.v _) (AllStay.nil))
              · refine Steps.cons (fun a w hS hI hp => ok_on rfl (does_val (x_move rfl (hS.get 0 rfl)) rfl)) ?_
                refine Steps.cons (fun a w hS hI hp => ok_on rfl (does_val (x_not rfl ((hp.get 0 (by rfl) rfl rfl))) rfl)) ?_
                exact Steps.nil
              clear hS
              intro at16 w17 hS hI hp
              have hBw17_w := hI.1
              have hBw17_w3 := hI.2.1
              have hBw17_w8 := hI.2.2.1
              have hBw17_w12 := hI.2.2.2
              replace hS := ((((hS.nil).cons (hS.get 4 rfl)).cons (hS.get 3 rfl)).cons (hS.get 2 rfl)).cons (hS.get 1 rfl)
              have hv22 : sl _ 22 = .bool (!t10_2) := hp 1 (by decide)
              have hBw17_w17 := Below.refl w17.heap.size w17
              have hS := hS.cons hv22
              clear hp hI hv22
              refine hK15 _ _ ?_
              clear hK15 K15
              refine wp_cond_false ((hS.get 0 rfl).trans (bF (congrArg (!·) c1))) ?_
              refine wp_skip ?_
              refine hK14 _ _ ?_
              clear hK14 K14
              refine wp_seq_k (fun K18 hK18 => ?_)
              refine reg_seq_tail 3 (N := 68) (bs := [(22, .bool (!t10_2)), (6, .slice A13 t10_1.length C13), (5, .int .i64 (wrap64 (34 + t6))), (4, .bool false), (2, .pointer (some ⟨g4, 0, none⟩))]) (I := fun x => Below w.heap.size w x ∧ Below w3.heap.size w3 x ∧ Below w8.heap.size w8 x ∧ Below w12.heap.size w12 x ∧ Below w17.heap.size w17 x) (ps := [IsV (.slice A13 t10_1.length C13), IsV (.int .i64 (wrap64 (34 + t6))), IsV (.int .i64 (wrap64 ((wrap64 (34 + t6)) - 34)))]) (by kernel_rfl) ?_ ?_ rfl hS ⟨hBw17_w, hBw17_w3, hBw17_w8, hBw17_w12, hBw17_w17⟩ ?_ ?_
              · exact fun x y hI hb => ⟨below_step hI.1 hb, below_step hI.2.1 hb, below_step hI.2.2.1 hb, below_step hI.2.2.2.1 hb, below_step hI.2.2.2.2 hb⟩
              · exact AllStay.cons (Stays.v _) (AllStay.cons (Stays.v _) (AllStay.cons (Stays.v _) (AllStay.nil)))
              · refine Steps.cons (fun a w hS hI hp => ok_on rfl (does_val (x_move rfl (hS.get 1 rfl)) rfl)) ?_
                refine Steps.cons (fun a w hS hI hp => ok_on rfl (does_val (x_move rfl (hS.get 2 rfl)) rfl)) ?_
                refine Steps.cons (fun a w hS hI hp => ok_on rfl (does_val (x_bin rfl ((hp.get 1 (by rfl) rfl rfl)) (rfl) (b_sub _ _ _ _ _)) rfl)) ?_
                exact Steps.nil
              clear hS
              intro at19 w20 hS hI hp
              have hBw20_w := hI.1
              have hBw20_w3 := hI.2.1
              have hBw20_w8 := hI.2.2.1
              have hBw20_w12 := hI.2.2.2.1
              have hBw20_w17 := hI.2.2.2.2
              replace hS := ((((hS.nil).cons (hS.get 4 rfl)).cons (hS.get 3 rfl)).cons (hS.get 2 rfl)).cons (hS.get 0 rfl)
              have hv30 : sl _ 30 = .slice A13 t10_1.length C13 := hp 0 (by decide)
              have hv32 : sl _ 32 = .int .i64 (wrap64 ((wrap64 (34 + t6)) - 34)) := hp 2 (by decide)
              have hBw20_w20 := Below.refl w20.heap.size w20
              have hS := hS.cons hv30
              have hS := hS.cons hv32
              clear hp hI hv30 hv32
              show wpList _ _ _ [_, _, _, _, _, _, _, _, _, _] _ _
              refine list_step rfl (does_zeros (ki := .i64) (W := w8) (.tmp 30) (.tmp 32) 29 3 5 1 rfl (by kernel_rfl) (by kernel_rfl) (by kernel_rfl) (by decide) _ t10_1 (wrap64 ((wrap64 (34 + t6)) - 34)) (hS.get 1 rfl) (hS.get 0 rfl) (Kd.R_below ho13 hBw20_w12) hBw20_w8 c2 c3) ?_
              rintro vw21 w21 ⟨hb, hr⟩
              have hBw21_w := below_step hBw8_w hb
              have hBw21_w3 := below_step hBw8_w3 hb
              have hBw21_w8 := hb
              replace hS := (((((hS.nil).cons (hS.get 5 rfl)).cons (hS.get 4 rfl)).cons (hS.get 3 rfl)).cons (hS.get 2 rfl)).cons (hS.get 0 rfl)
              have hBw21_w21 := Below.refl w21.heap.size w21
              obtain ⟨A22, C22, rfl, hl22, hc22⟩ := Kd.R_reads hr
              have hr22 := hr
              clear hr
              refine hS.next (v := .slice A22 ((t10_1 ++ List.replicate (wrap64 ((wrap64 (34 + t6)) - 34) : Int).toNat 0 : List Int).length) C22) (d := 33) rfl (by decide) (by rfl) ?_
              clear hS
              intro at23 hS
              refine list_step rfl (R := fun v w' => Below _ _ w' ∧ (IsV (.tuple #[.agg #[.int .i64 t25_1, .int .i64 t25_2, .int .i64 t25_3, .int .i64 t25_4, .int .u64 t25_5, .int .i64 t25_6, .int .i64 t25_7, .int .i64 t25_8, .int .i64 t25_9, .int .u64 t25_10, .int .i64 t25_11, .int .i64 t25_12, .int .i64 t25_13, .int .i64 t25_14, .int .i64 t25_15, .int .i64 t25_16, .int .i64 t25_17, .int .u64 t25_18, .int .i64 t25_19, .int .i64 t25_20, .int .i64 t25_21, .int .i64 t25_22, .int .i64 t25_23], .int .i64 t25_24, .int .i64 t25_25])) v w') (does_call (by kernel_rfl) (ar1 (hS.get 0 rfl)) ((header_Get.calls k _ _ (t10_1 ++ List.replicate (wrap64 ((wrap64 (34 + t6)) - 34) : Int).toNat 0 : List Int) t25_1 t25_2 t25_3 t25_4 t25_5 t25_6 t25_7 t25_8 t25_9 t25_10 t25_11 t25_12 t25_13 t25_14 t25_15 t25_16 t25_17 t25_18 t25_19 t25_20 t25_21 t25_22 t25_23 t25_24 t25_25 _ (Kd.C_below hc22 hBw21_w21) hl22 At25).mono fun _ _ h => ⟨_, h.1, h.2, rfl⟩)) ?_
              rintro vw24 w24 ⟨hb, he⟩
              have hBw24_w := below_step hBw21_w hb
              have hBw24_w3 := below_step hBw21_w3 hb
              have hBw24_w8 := below_step hBw21_w8 hb
              have hBw24_w21 := below_step hBw21_w21 hb
              have hBw24_w24 := Below.refl w24.heap.size w24
              obtain rfl : vw24 = .tuple #[.agg #[.int .i64 t25_1, .int .i64 t25_2, .int .i64 t25_3, .int .i64 t25_4, .int .u64 t25_5, .int .i64 t25_6, .int .i64 t25_7, .int .i64 t25_8, .int .i64 t25_9, .int .u64 t25_10, .int .i64 t25_11, .int .i64 t25_12, .int .i64 t25_13, .int .i64 t25_14, .int .i64 t25_15, .int .i64 t25_16, .int .i64 t25_17, .int .u64 t25_18, .int .i64 t25_19, .int .i64 t25_20, .int .i64 t25_21, .int .i64 t25_22, .int .i64 t25_23], .int .i64 t25_24, .int .i64 t25_25] := he
              refine hS.next (v := .tuple #[.agg #[.int .i64 t25_1, .int .i64 t25_2, .int .i64 t25_3, .int .i64 t25_4, .int .u64 t25_5, .int .i64 t25_6, .int .i64 t25_7, .int .i64 t25_8, .int .i64 t25_9, .int .u64 t25_10, .int .i64 t25_11, .int .i64 t25_12, .int .i64 t25_13, .int .i64 t25_14, .int .i64 t25_15, .int .i64 t25_16, .int .i64 t25_17, .int .u64 t25_18, .int .i64 t25_19, .int .i64 t25_20, .int .i64 t25_21, .int .i64 t25_22, .int .i64 t25_23], .int .i64 t25_24, .int .i64 t25_25]) (d := 34) rfl (by decide) (by rfl) ?_
              clear hS
              intro at26 hS
              refine list_step rfl (R := fun v w' => Below _ _ w' ∧ (IsV (.tuple #[.agg #[.int .i64 t25_1, .int .i64 t25_2, .int .i64 t25_3, .int .i64 t25_4, .int .u64 t25_5, .int .i64 t25_6, .int .i64 t25_7, .int .i64 t25_8, .int .i64 t25_9, .int .u64 t25_10, .int .i64 t25_11, .int .i64 t25_12, .int .i64 t25_13, .int .i64 t25_14, .int .i64 t25_15, .int .i64 t25_16, .int .i64 t25_17, .int .u64 t25_18, .int .i64 t25_19, .int .i64 t25_20, .int .i64 t25_21, .int .i64 t25_22, .int .i64 t25_23], .int .i64 t25_24, .int .i64 t25_25])) v w') (does_val (x_move rfl (hS.get 0 rfl)) rfl) ?_
              rintro vw27 w27 ⟨hb, he⟩
              have hBw27_w := below_step hBw24_w hb
              have hBw27_w3 := below_step hBw24_w3 hb
              have hBw27_w8 := below_step hBw24_w8 hb
              have hBw27_w21 := below_step hBw24_w21 hb
              have hBw27_w24 := below_step hBw24_w24 hb
              have hBw27_w27 := Below.refl w27.heap.size w27
              obtain rfl : vw27 = .tuple #[.agg #[.int .i64 t25_1, .int .i64 t25_2, .int .i64 t25_3, .int .i64 t25_4, .int .u64 t25_5, .int .i64 t25_6, .int .i64 t25_7, .int .i64 t25_8, .int .i64 t25_9, .int .u64 t25_10, .int .i64 t25_11, .int .i64 t25_12, .int .i64 t25_13, .int .i64 t25_14, .int .i64 t25_15, .int .i64 t25_16, .int .i64 t25_17, .int .u64 t25_18, .int .i64 t25_19, .int .i64 t25_20, .int .i64 t25_21, .int .i64 t25_22, .int .i64 t25_23], .int .i64 t25_24, .int .i64 t25_25] := he
              refine hS.next (v := .tuple #[.agg #[.int .i64 t25_1, .int .i64 t25_2, .int .i64 t25_3, .int .i64 t25_4, .int .u64 t25_5, .int .i64 t25_6, .int .i64 t25_7, .int .i64 t25_8, .int .i64 t25_9, .int .u64 t25_10, .int .i64 t25_11, .int .i64 t25_12, .int .i64 t25_13, .int .i64 t25_14, .int .i64 t25_15, .int .i64 t25_16, .int .i64 t25_17, .int .u64 t25_18, .int .i64 t25_19, .int .i64 t25_20, .int .i64 t25_21, .int .i64 t25_22, .int .i64 t25_23], .int .i64 t25_24, .int .i64 t25_25]) (d := 29) rfl (by decide) (by rfl) ?_
              clear hS
              intro at28 hS
              refine list_step rfl (R := fun v w' => Below _ _ w' ∧ (IsV (.agg #[.int .i64 t25_1, .int .i64 t25_2, .int .i64 t25_3, .int .i64 t25_4, .int .u64 t25_5, .int .i64 t25_6, .int .i64 t25_7, .int .i64 t25_8, .int .i64 t25_9, .int .u64 t25_10, .int .i64 t25_11, .int .i64 t25_12, .int .i64 t25_13, .int .i64 t25_14, .int .i64 t25_15, .int .i64 t25_16, .int .i64 t25_17, .int .u64 t25_18, .int .i64 t25_19, .int .i64 t25_20, .int .i64 t25_21, .int .i64 t25_22, .int .i64 t25_23])) v w') (does_val (x_extract rfl (hS.get 0 rfl) rfl) rfl) ?_
              rintro vw29 w29 ⟨hb, he⟩
              have hBw29_w := below_step hBw27_w hb
              have hBw29_w3 := below_step hBw27_w3 hb
              have hBw29_w8 := below_step hBw27_w8 hb
              have hBw29_w21 := below_step hBw27_w21 hb
              have hBw29_w27 := below_step hBw27_w27 hb
              have hBw29_w29 := Below.refl w29.heap.size w29
              obtain rfl : vw29 = .agg #[.int .i64 t25_1, .int .i64 t25_2, .int .i64 t25_3, .int .i64 t25_4, .int .u64 t25_5, .int .i64 t25_6, .int .i64 t25_7, .int .i64 t25_8, .int .i64 t25_9, .int .u64 t25_10, .int .i64 t25_11, .int .i64 t25_12, .int .i64 t25_13, .int .i64 t25_14, .int .i64 t25_15, .int .i64 t25_16, .int .i64 t25_17, .int .u64 t25_18, .int .i64 t25_19, .int .i64 t25_20, .int .i64 t25_21, .int .i64 t25_22, .int .i64 t25_23] := he
              refine hS.next (v := .agg #[.int .i64 t25_1, .int .i64 t25_2, .int .i64 t25_3, .int .i64 t25_4, .int .u64 t25_5, .int .i64 t25_6, .int .i64 t25_7, .int .i64 t25_8, .int .i64 t25_9, .int .u64 t25_10, .int .i64 t25_11, .int .i64 t25_12, .int .i64 t25_13, .int .i64 t25_14, .int .i64 t25_15, .int .i64 t25_16, .int .i64 t25_17, .int .u64 t25_18, .int .i64 t25_19, .int .i64 t25_20, .int .i64 t25_21, .int .i64 t25_22, .int .i64 t25_23]) (d := 35) rfl (by decide) (by rfl) ?_
              clear hS
              intro at30 hS
              refine list_step rfl (R := fun v w' => Below _ _ w' ∧ (IsV (.int .i64 t25_24)) v w') (does_val (x_extract rfl (hS.get 1 rfl) rfl) rfl) ?_
              rintro vw31 w31 ⟨hb, he⟩
              have hBw31_w := below_step hBw29_w hb
              have hBw31_w3 := below_step hBw29_w3 hb
              have hBw31_w8 := below_step hBw29_w8 hb
              have hBw31_w21 := below_step hBw29_w21 hb
              have hBw31_w29 := below_step hBw29_w29 hb
              have hBw31_w31 := Below.refl w31.heap.size w31
              obtain rfl : vw31 = .int .i64 t25_24 := he
              refine hS.next (v := .int .i64 t25_24) (d := 36) rfl (by decide) (by rfl) ?_
              clear hS
              intro at32 hS
              refine list_step rfl (R := fun v w' => Below _ _ w' ∧ (IsV (.int .i64 t25_25)) v w') (does_val (x_extract rfl (hS.get 2 rfl) rfl) rfl) ?_
              rintro vw33 w33 ⟨hb, he⟩
              have hBw33_w := below_step hBw31_w hb
              have hBw33_w3 := below_step hBw31_w3 hb
              have hBw33_w8 := below_step hBw31_w8 hb
              have hBw33_w21 := below_step hBw31_w21 hb
              have hBw33_w31 := below_step hBw31_w31 hb
              have hBw33_w33 := Below.refl w33.heap.size w33
              obtain rfl : vw33 = .int .i64 t25_25 := he
              refine hS.next (v := .int .i64 t25_25) (d := 37) rfl (by decide) (by rfl) ?_
              clear hS
              intro at34 hS
              refine list_step rfl (R := fun v w' => Below _ _ w' ∧ (IsB #[.int .i64 0, .int .i64 0, .int .i64 0, .int .i64 0, .int .u64 0, .int .i64 0, .int .i64 0, .int .i64 0, .int .i64 0, .int .u64 0, .int .i64 0, .int .i64 0, .int .i64 0, .int .i64 0, .int .i64 0, .int .i64 0, .int .i64 0, .int .u64 0, .int .i64 0, .int .i64 0, .int .i64 0, .int .i64 0, .int .i64 0] 28 w33.heap.size) v w') (does_var (x_alloc rfl (by kernel_rfl)) (hBw33_w33).size) ?_
              rintro vw35 w35 ⟨hb, he⟩
              have hBw35_w := below_step hBw33_w hb
              have hBw35_w3 := below_step hBw33_w3 hb
              have hBw35_w8 := below_step hBw33_w8 hb
              have hBw35_w21 := below_step hBw33_w21 hb
              have hBw35_w33 := below_step hBw33_w33 hb
              have hBw35_w35 := Below.refl w35.heap.size w35
              obtain ⟨g36, rfl, hgeg36, hbxg36⟩ := he
              refine hS.next (v := .pointer (some ⟨g36, 0, none⟩)) (d := 8) rfl (by decide) (by rfl) ?_
              clear hS
              intro at37 hS
              refine list_step rfl (does_storeAll (g := g36) (cs := #[.int .i64 t25_1, .int .i64 t25_2, .int .i64 t25_3, .int .i64 t25_4, .int .u64 t25_5, .int .i64 t25_6, .int .i64 t25_7, .int .i64 t25_8, .int .i64 t25_9, .int .u64 t25_10, .int .i64 t25_11, .int .i64 t25_12, .int .i64 t25_13, .int .i64 t25_14, .int .i64 t25_15, .int .i64 t25_16, .int .i64 t25_17, .int .u64 t25_18, .int .i64 t25_19, .int .i64 t25_20, .int .i64 t25_21, .int .i64 t25_22, .int .i64 t25_23]) rfl (hS.get 0 rfl) (hS.get 3 rfl) ((hBw35_w35.block g36 (blk_lt hbxg36)).trans hbxg36) (by kernel_rfl) (by kernel_rfl) (by kernel_rfl)) ?_
              rintro vw38 w38 ⟨rfl, hbxw38, hT⟩
              have hBw38_w := hT.below hBw35_w (Nat.le_trans (hBw33_w).size hgeg36) (hBw35_w).size
              have hBw38_w3 := hT.below hBw35_w3 (Nat.le_trans (hBw33_w3).size hgeg36) (hBw35_w3).size
              have hBw38_w8 := hT.below hBw35_w8 (Nat.le_trans (hBw33_w8).size hgeg36) (hBw35_w8).size
              have hBw38_w21 := hT.below hBw35_w21 (Nat.le_trans (hBw33_w21).size hgeg36) (hBw35_w21).size
              have hBw38_w33 := hT.below hBw35_w33 hgeg36 (hBw35_w33).size
              have hBw38_w38 := Below.refl w38.heap.size w38
              clear hT
              refine list_step rfl (R := fun v w' => Below _ _ w' ∧ (IsV (.int .i64 t25_24)) v w') (does_val (x_assign rfl (hS.get 2 rfl)) rfl) ?_
              rintro vw39 w39 ⟨hb, he⟩
              have hBw39_w := below_step hBw38_w hb
              have hBw39_w3 := below_step hBw38_w3 hb
              have hBw39_w8 := below_step hBw38_w8 hb
              have hBw39_w21 := below_step hBw38_w21 hb
              have hBw39_w33 := below_step hBw38_w33 hb
              have hBw39_w38 := below_step hBw38_w38 hb
              have hBw39_w39 := Below.refl w39.heap.size w39
              obtain rfl : vw39 = .int .i64 t25_24 := he
              refine hS.next (v := .int .i64 t25_24) (d := 9) rfl (by decide) (by rfl) ?_
              clear hS
              intro at40 hS
              refine list_step rfl (R := fun v w' => Below _ _ w' ∧ (IsV (.int .i64 t25_25)) v w') (does_val (x_assign rfl (hS.get 2 rfl)) rfl) ?_
              rintro vw41 w41 ⟨hb, he⟩
              have hBw41_w := below_step hBw39_w hb
              have hBw41_w3 := below_step hBw39_w3 hb
              have hBw41_w8 := below_step hBw39_w8 hb
              have hBw41_w21 := below_step hBw39_w21 hb
              have hBw41_w33 := below_step hBw39_w33 hb
              have hBw41_w38 := below_step hBw39_w38 hb
              have hBw41_w39 := below_step hBw39_w39 hb
              have hBw41_w41 := Below.refl w41.heap.size w41
              obtain rfl : vw41 = .int .i64 t25_25 := he
              refine hS.next (v := .int .i64 t25_25) (d := 10) rfl (by decide) (by rfl) ?_
              clear hS
              intro at42 hS
              refine wpList_nil ?_
              refine hK18 _ _ ?_
              clear hK18 K18
              refine wp_seq_k (fun K43 hK43 => ?_)
              refine reg_seq_tail 16 (N := 68) (bs := [(10, .int .i64 t25_25), (9, .int .i64 t25_24), (8, .pointer (some ⟨g36, 0, none⟩)), (37, .int .i64 t25_25), (36, .int .i64 t25_24), (35, .agg #[.int .i64 t25_1, .int .i64 t25_2, .int .i64 t25_3, .int .i64 t25_4, .int .u64 t25_5, .int .i64 t25_6, .int .i64 t25_7, .int .i64 t25_8, .int .i64 t25_9, .int .u64 t25_10, .int .i64 t25_11, .int .i64 t25_12, .int .i64 t25_13, .int .i64 t25_14, .int .i64 t25_15, .int .i64 t25_16, .int .i64 t25_17, .int .u64 t25_18, .int .i64 t25_19, .int .i64 t25_20, .int .i64 t25_21, .int .i64 t25_22, .int .i64 t25_23]), (29, .tuple #[.agg #[.int .i64 t25_1, .int .i64 t25_2, .int .i64 t25_3, .int .i64 t25_4, .int .u64 t25_5, .int .i64 t25_6, .int .i64 t25_7, .int .i64 t25_8, .int .i64 t25_9, .int .u64 t25_10, .int .i64 t25_11, .int .i64 t25_12, .int .i64 t25_13, .int .i64 t25_14, .int .i64 t25_15, .int .i64 t25_16, .int .i64 t25_17, .int .u64 t25_18, .int .i64 t25_19, .int .i64 t25_20, .int .i64 t25_21, .int .i64 t25_22, .int .i64 t25_23], .int .i64 t25_24, .int .i64 t25_25]), (34, .tuple #[.agg #[.int .i64 t25_1, .int .i64 t25_2, .int .i64 t25_3, .int .i64 t25_4, .int .u64 t25_5, .int .i64 t25_6, .int .i64 t25_7, .int .i64 t25_8, .int .i64 t25_9, .int .u64 t25_10, .int .i64 t25_11, .int .i64 t25_12, .int .i64 t25_13, .int .i64 t25_14, .int .i64 t25_15, .int .i64 t25_16, .int .i64 t25_17, .int .u64 t25_18, .int .i64 t25_19, .int .i64 t25_20, .int .i64 t25_21, .int .i64 t25_22, .int .i64 t25_23], .int .i64 t25_24, .int .i64 t25_25]), (33, .slice A22 ((t10_1 ++ List.replicate (wrap64 ((wrap64 (34 + t6)) - 34) : Int).toNat 0 : List Int).length) C22), (32, .int .i64 (wrap64 ((wrap64 (34 + t6)) - 34))), (22, .bool (!t10_2)), (5, .int .i64 (wrap64 (34 + t6))), (4, .bool false), (2, .pointer (some ⟨g4, 0, none⟩))]) (I := fun x => Below w.heap.size w x ∧ Below w3.heap.size w3 x ∧ Below w8.heap.size w8 x ∧ Below w21.heap.size w21 x ∧ Below w33.heap.size w33 x ∧ Below w38.heap.size w38 x ∧ Below w41.heap.size w41 x) (ps := [IsV (.pointer (some ⟨g4, 0, none⟩)), IsV (.int .i64 a0_0), IsV (.pointer (some ⟨g4, 1, none⟩)), IsV (.int .i64 a0_1), IsV (.pointer (some ⟨g4, 2, none⟩)), IsV (.int .i64 a0_2), IsV (.pointer (some ⟨g4, 3, none⟩)), IsV (.int .i64 a0_3), IsV (.pointer (some ⟨g4, 4, none⟩)), IsV (.agg #[.int .u64 a0_4, .int .i64 a0_5]), IsV (.pointer (some ⟨g4, 6, none⟩)), IsV (.int .i64 a0_6), IsV (.pointer (some ⟨g4, 7, none⟩)), IsV (.int .i64 a0_7), IsV (.agg #[.int .i64 a0_0, .int .i64 a0_1, .int .i64 a0_2, .int .i64 a0_3, .int .u64 a0_4, .int .i64 a0_5, .int .i64 a0_6, .int .i64 a0_7, .int .i64 0, .int .u64 0, .int .i64 0, .int .i64 0, .int .i64 0, .int .i64 0, .int .i64 0, .int .i64 0, .int .i64 0, .int .u64 0, .int .i64 0, .int .i64 0, .int .i64 0, .int .i64 0, .int .i64 0]), IsB #[.int .i64 0, .int .i64 0, .int .i64 0, .int .i64 0, .int .u64 0, .int .i64 0, .int .i64 0, .int .i64 0, .int .i64 0, .int .u64 0, .int .i64 0, .int .i64 0, .int .i64 0, .int .i64 0, .int .i64 0, .int .i64 0, .int .i64 0, .int .u64 0, .int .i64 0, .int .i64 0, .int .i64 0, .int .i64 0, .int .i64 0] 28 w41.heap.size]) (by kernel_rfl) ?_ ?_ rfl hS ⟨hBw41_w, hBw41_w3, hBw41_w8, hBw41_w21, hBw41_w33, hBw41_w38, hBw41_w41⟩ ?_ ?_
              · exact fun x y hI hb => ⟨below_step hI.1 hb, below_step hI.2.1 hb, below_step hI.2.2.1 hb, below_step hI.2.2.2.1 hb, below_step hI.2.2.2.2.1 hb, below_step hI.2.2.2.2.2.1 hb, below_step hI.2.2.2.2.2.2 hb⟩
              · exact AllStay.cons (Stays.v _) (AllStay.cons (Stays.v _) (AllStay.cons (Stays.v _) (AllStay.cons (Stays.v _) (AllStay.cons (Stays.v _) (AllStay.cons (Stays.v _) (AllStay.cons (Stays.v _) (AllStay.cons (Stays.v _) (AllStay.cons (Stays.v _) (AllStay.cons (Stays.v _) (AllStay.cons (Stays.v _) (AllStay.cons (Stays.v _) (AllStay.cons (Stays.v _) (AllStay.cons (Stays.v _) (AllStay.cons (Stays.v _) (AllStay.cons (Stays.b _ _ _) (AllStay.nil))))))))))))))))
              · refine Steps.cons (fun a w hS hI hp => ok_on rfl (does_val (x_field rfl (hS.get 13 rfl) Try.underlying28 rfl (by kernel_rfl)) rfl)) ?_
                refine Steps.cons (fun a w hS hI hp => ok_on rfl (does_val (x_load1 (d := .int .i64) rfl ((hp.get 0 (by rfl) rfl rfl)) (by kernel_rfl) rfl ((blk_cell (((hI.2.1).block g4 (blk_lt hbxg4)).trans hbxg4) 0).trans rfl)) rfl)) ?_
                refine Steps.cons (fun a w hS hI hp => ok_on rfl (does_val (x_field rfl (hS.get 13 rfl) Try.underlying28 rfl (by kernel_rfl)) rfl)) ?_
                refine Steps.cons (fun a w hS hI hp => ok_on rfl (does_val (x_load1 (d := .int .i64) rfl ((hp.get 2 (by rfl) rfl rfl)) (by kernel_rfl) rfl ((blk_cell (((hI.2.1).block g4 (blk_lt hbxg4)).trans hbxg4) 1).trans rfl)) rfl)) ?_
                refine Steps.cons (fun a w hS hI hp => ok_on rfl (does_val (x_field rfl (hS.get 13 rfl) Try.underlying28 rfl (by kernel_rfl)) rfl)) ?_
                refine Steps.cons (fun a w hS hI hp => ok_on rfl (does_val (x_load1 (d := .int .i64) rfl ((hp.get 4 (by rfl) rfl rfl)) (by kernel_rfl) rfl ((blk_cell (((hI.2.1).block g4 (blk_lt hbxg4)).trans hbxg4) 2).trans rfl)) rfl)) ?_
                refine Steps.cons (fun a w hS hI hp => ok_on rfl (does_val (x_field rfl (hS.get 13 rfl) Try.underlying28 rfl (by kernel_rfl)) rfl)) ?_
                refine Steps.cons (fun a w hS hI hp => ok_on rfl (does_val (x_load1 (d := .int .i64) rfl ((hp.get 6 (by rfl) rfl rfl)) (by kernel_rfl) rfl ((blk_cell (((hI.2.1).block g4 (blk_lt hbxg4)).trans hbxg4) 3).trans rfl)) rfl)) ?_
                refine Steps.cons (fun a w hS hI hp => ok_on rfl (does_val (x_field rfl (hS.get 13 rfl) Try.underlying28 rfl (by kernel_rfl)) rfl)) ?_
                refine Steps.cons (fun a w hS hI hp => ok_on rfl (does_loadmid (cs := [.int .u64 a0_4, .int .i64 a0_5]) rfl ((hp.get 8 (by rfl) rfl rfl)) (((hI.2.1).block g4 (blk_lt hbxg4)).trans hbxg4) rfl Try.underlying24 rfl (by kernel_rfl) rfl)) ?_
                refine Steps.cons (fun a w hS hI hp => ok_on rfl (does_val (x_field rfl (hS.get 13 rfl) Try.underlying28 rfl (by kernel_rfl)) rfl)) ?_
                refine Steps.cons (fun a w hS hI hp => ok_on rfl (does_val (x_load1 (d := .int .i64) rfl ((hp.get 10 (by rfl) rfl rfl)) (by kernel_rfl) rfl ((blk_cell (((hI.2.1).block g4 (blk_lt hbxg4)).trans hbxg4) 6).trans rfl)) rfl)) ?_
                refine Steps.cons (fun a w hS hI hp => ok_on rfl (does_val (x_field rfl (hS.get 13 rfl) Try.underlying28 rfl (by kernel_rfl)) rfl)) ?_
                refine Steps.cons (fun a w hS hI hp => ok_on rfl (does_val (x_load1 (d := .int .i64) rfl ((hp.get 12 (by rfl) rfl rfl)) (by kernel_rfl) rfl ((blk_cell (((hI.2.1).block g4 (blk_lt hbxg4)).trans hbxg4) 7).trans rfl)) rfl)) ?_
                refine Steps.cons (fun a w hS hI hp => ok_on rfl (does_val (x_build (vs := [(0, .int .i64 a0_0), (1, .int .i64 a0_1), (2, .int .i64 a0_2), (3, .int .i64 a0_3), (4, .agg #[.int .u64 a0_4, .int .i64 a0_5]), (5, .int .i64 a0_6), (6, .int .i64 a0_7)]) rfl (by rw [Array.toList_map]; exact (show [(0, a.eval (.tmp 39)), (1, a.eval (.tmp 41)), (2, a.eval (.tmp 43)), (3, a.eval (.tmp 45)), (4, a.eval (.tmp 47)), (5, a.eval (.tmp 49)), (6, a.eval (.tmp 51))] = _ from (li_cons ((hp.get 1 (by rfl) rfl rfl)) (li_cons ((hp.get 3 (by rfl) rfl rfl)) (li_cons ((hp.get 5 (by rfl) rfl rfl)) (li_cons ((hp.get 7 (by rfl) rfl rfl)) (li_cons ((hp.get 9 (by rfl) rfl rfl)) (li_cons ((hp.get 11 (by rfl) rfl rfl)) (li_cons ((hp.get 13 (by rfl) rfl rfl)) rfl))))))))) (by kernel_rfl)) rfl)) ?_
                refine Steps.cons (fun a w hS hI hp => ok_on rfl (does_var (x_alloc rfl (by kernel_rfl)) (hI.2.2.2.2.2.2).size)) ?_
                exact Steps.nil
              clear hS
              intro at44 w45 hS hI hp
              have hBw45_w := hI.1
              have hBw45_w3 := hI.2.1
              have hBw45_w8 := hI.2.2.1
              have hBw45_w21 := hI.2.2.2.1
              have hBw45_w33 := hI.2.2.2.2.1
              have hBw45_w38 := hI.2.2.2.2.2.1
              have hBw45_w41 := hI.2.2.2.2.2.2
              replace hS := ((((((hS.nil).cons (hS.get 12 rfl)).cons (hS.get 11 rfl)).cons (hS.get 10 rfl)).cons (hS.get 2 rfl)).cons (hS.get 1 rfl)).cons (hS.get 0 rfl)
              have hv52 : sl _ 52 = .agg #[.int .i64 a0_0, .int .i64 a0_1, .int .i64 a0_2, .int .i64 a0_3, .int .u64 a0_4, .int .i64 a0_5, .int .i64 a0_6, .int .i64 a0_7, .int .i64 0, .int .u64 0, .int .i64 0, .int .i64 0, .int .i64 0, .int .i64 0, .int .i64 0, .int .i64 0, .int .i64 0, .int .u64 0, .int .i64 0, .int .i64 0, .int .i64 0, .int .i64 0, .int .i64 0] := hp 14 (by decide)
              obtain ⟨g46, hv11, hgeg46, hbxg46⟩ := (show IsB _ 28 _ (sl _ 11) _ from hp 15 (by decide))
              have hBw45_w45 := Below.refl w45.heap.size w45
              have hS := hS.cons hv52
              have hS := hS.cons hv11
              clear hp hI hv52 hv11
              show wpList _ _ _ [_] _ _
              refine list_step rfl (does_storeAll (g := g46) (cs := #[.int .i64 a0_0, .int .i64 a0_1, .int .i64 a0_2, .int .i64 a0_3, .int .u64 a0_4, .int .i64 a0_5, .int .i64 a0_6, .int .i64 a0_7, .int .i64 0, .int .u64 0, .int .i64 0, .int .i64 0, .int .i64 0, .int .i64 0, .int .i64 0, .int .i64 0, .int .i64 0, .int .u64 0, .int .i64 0, .int .i64 0, .int .i64 0, .int .i64 0, .int .i64 0]) rfl (hS.get 0 rfl) (hS.get 1 rfl) ((hBw45_w45.block g46 (blk_lt hbxg46)).trans hbxg46) (by kernel_rfl) (by kernel_rfl) (by kernel_rfl)) ?_
              rintro vw47 w47 ⟨rfl, hbxw47, hT⟩
              have hBw47_w := hT.below hBw45_w (Nat.le_trans (hBw41_w).size hgeg46) (hBw45_w).size
              have hBw47_w3 := hT.below hBw45_w3 (Nat.le_trans (hBw41_w3).size hgeg46) (hBw45_w3).size
              have hBw47_w33 := hT.below hBw45_w33 (Nat.le_trans (hBw41_w33).size hgeg46) (hBw45_w33).size
              have hBw47_w38 := hT.below hBw45_w38 (Nat.le_trans (hBw41_w38).size hgeg46) (hBw45_w38).size
              have hBw47_w41 := hT.below hBw45_w41 hgeg46 (hBw45_w41).size
              have hBw47_w47 := Below.refl w47.heap.size w47
              clear hT
              refine wpList_nil ?_
              refine hK43 _ _ ?_
              clear hK43 K43
              refine wp_seq_k (fun K48 hK48 => ?_)
              replace hS := (((((((hS.nil).cons (hS.get 6 rfl)).cons (hS.get 5 rfl)).cons (hS.get 4 rfl)).cons (hS.get 3 rfl)).cons (hS.get 2 rfl)).cons (hS.get 1 rfl)).cons (hS.get 0 rfl)
              refine reg_seq (N := 68) (bs := [(11, .pointer (some ⟨g46, 0, none⟩)), (52, .agg #[.int .i64 a0_0, .int .i64 a0_1, .int .i64 a0_2, .int .i64 a0_3, .int .u64 a0_4, .int .i64 a0_5, .int .i64 a0_6, .int .i64 a0_7, .int .i64 0, .int .u64 0, .int .i64 0, .int .i64 0, .int .i64 0, .int .i64 0, .int .i64 0, .int .i64 0, .int .i64 0, .int .u64 0, .int .i64 0, .int .i64 0, .int .i64 0, .int .i64 0, .int .i64 0]), (10, .int .i64 t25_25), (9, .int .i64 t25_24), (8, .pointer (some ⟨g36, 0, none⟩)), (22, .bool (!t10_2)), (5, .int .i64 (wrap64 (34 + t6)))]) (I := fun x => Below w.heap.size w x ∧ Below w3.heap.size w3 x ∧ Below w33.heap.size w33 x ∧ Below w38.heap.size w38 x ∧ Below w41.heap.size w41 x ∧ Below w47.heap.size w47 x) (ps := [IsV (.int .i64 t25_25), IsV (.bool (decide (t25_25 = 0))), IsV (.bool (decide (t25_25 = 0))), IsV (.int .i64 t25_24), IsV (.int .i64 (wrap64 (34 + t6))), IsV (.bool (decide (t25_24 = (wrap64 (34 + t6))))), IsV (.bool (decide (t25_24 = (wrap64 (34 + t6))))), IsV (.bool (decide (t25_24 = (wrap64 (34 + t6))))), IsV (.agg #[.int .i64 t25_1, .int .i64 t25_2, .int .i64 t25_3, .int .i64 t25_4, .int .u64 t25_5, .int .i64 t25_6, .int .i64 t25_7, .int .i64 t25_8, .int .i64 t25_9, .int .u64 t25_10, .int .i64 t25_11, .int .i64 t25_12, .int .i64 t25_13, .int .i64 t25_14, .int .i64 t25_15, .int .i64 t25_16, .int .i64 t25_17, .int .u64 t25_18, .int .i64 t25_19, .int .i64 t25_20, .int .i64 t25_21, .int .i64 t25_22, .int .i64 t25_23]), IsV (.agg #[.int .i64 a0_0, .int .i64 a0_1, .int .i64 a0_2, .int .i64 a0_3, .int .u64 a0_4, .int .i64 a0_5, .int .i64 a0_6, .int .i64 a0_7, .int .i64 0, .int .u64 0, .int .i64 0, .int .i64 0, .int .i64 0, .int .i64 0, .int .i64 0, .int .i64 0, .int .i64 0, .int .u64 0, .int .i64 0, .int .i64 0, .int .i64 0, .int .i64 0, .int .i64 0]), IsV (.bool ((t25_1 == a0_0) && ((t25_2 == a0_1) && ((t25_3 == a0_2) && ((t25_4 == a0_3) && ((t25_5 == a0_4) && ((t25_6 == a0_5) && ((t25_7 == a0_6) && ((t25_8 == a0_7) && ((t25_9 == 0) && ((t25_10 == 0) && ((t25_11 == 0) && ((t25_12 == 0) && ((t25_13 == 0) && ((t25_14 == 0) && ((t25_15 == 0) && ((t25_16 == 0) && ((t25_17 == 0) && ((t25_18 == 0) && ((t25_19 == 0) && ((t25_20 == 0) && ((t25_21 == 0) && ((t25_22 == 0) && (t25_23 == 0)))))))))))))))))))))))), IsV (.bool ((t25_1 == a0_0) && ((t25_2 == a0_1) && ((t25_3 == a0_2) && ((t25_4 == a0_3) && ((t25_5 == a0_4) && ((t25_6 == a0_5) && ((t25_7 == a0_6) && ((t25_8 == a0_7) && ((t25_9 == 0) && ((t25_10 == 0) && ((t25_11 == 0) && ((t25_12 == 0) && ((t25_13 == 0) && ((t25_14 == 0) && ((t25_15 == 0) && ((t25_16 == 0) && ((t25_17 == 0) && ((t25_18 == 0) && ((t25_19 == 0) && ((t25_20 == 0) && ((t25_21 == 0) && ((t25_22 == 0) && (t25_23 == 0)))))))))))))))))))))))), IsV (.bool ((t25_1 == a0_0) && ((t25_2 == a0_1) && ((t25_3 == a0_2) && ((t25_4 == a0_3) && ((t25_5 == a0_4) && ((t25_6 == a0_5) && ((t25_7 == a0_6) && ((t25_8 == a0_7) && ((t25_9 == 0) && ((t25_10 == 0) && ((t25_11 == 0) && ((t25_12 == 0) && ((t25_13 == 0) && ((t25_14 == 0) && ((t25_15 == 0) && ((t25_16 == 0) && ((t25_17 == 0) && ((t25_18 == 0) && ((t25_19 == 0) && ((t25_20 == 0) && ((t25_21 == 0) && ((t25_22 == 0) && (t25_23 == 0)))))))))))))))))))))))), IsV (.bool t49), IsV (.bool t49), IsV (.bool t49)]) (by kernel_rfl) ?_ ?_ rfl hS ⟨hBw47_w, hBw47_w3, hBw47_w33, hBw47_w38, hBw47_w41, hBw47_w47⟩ ?_ ?_
              · exact fun x y hI hb => ⟨below_step hI.1 hb, below_step hI.2.1 hb, below_step hI.2.2.1 hb, below_step hI.2.2.2.1 hb, below_step hI.2.2.2.2.1 hb, below_step hI.2.2.2.2.2 hb⟩
              · exact AllStay.cons (Stays.v _) (AllStay.cons (Stays.v _) (AllStay.cons (Stays.v _) (AllStay.cons (Stays.v _) (AllStay.cons (Stays.v _) (AllStay.cons (Stays.v _) (AllStay.cons (Stays.v _) (AllStay.cons (Stays.v _) (AllStay.cons (Stays.v _) (AllStay.cons (Stays.v _) (AllStay.cons (Stays.v _) (AllStay.cons (Stays.v _) (AllStay.cons (Stays.v _) (AllStay.cons (Stays.v _) (AllStay.cons (Stays.v _) (AllStay.cons (Stays.v _) (AllStay.nil))))))))))))))))
              · refine Steps.cons (fun a w hS hI hp => ok_on rfl (does_val (x_move rfl (hS.get 2 rfl)) rfl)) ?_
                refine Steps.cons (fun a w hS hI hp => ok_on rfl (does_val (x_bin rfl ((hp.get 0 (by rfl) rfl rfl)) (rfl) (b_eql _ _ _ _ _ _)) rfl)) ?_
                refine Steps.cons (fun a w hS hI hp => ok_on rfl (does_val (x_move rfl ((hp.get 1 (by rfl) rfl rfl))) rfl)) ?_
                refine Steps.cons (fun a w hS hI hp => ok_if (d := 55) rfl rfl (by rw [hS.size]; decide) (((hp.get 2 (by rfl) rfl rfl)).trans (bT (decide_eq_true c4))) (does_val (x_move rfl (hS.get 3 rfl)) rfl)) ?_
                refine Steps.cons (fun a w hS hI hp => ok_if (d := 55) rfl rfl (by rw [hS.size]; decide) (((hp.get 2 (by rfl) rfl rfl)).trans (bT (decide_eq_true c4))) (does_val (x_move rfl (hS.get 6 rfl)) rfl)) ?_
                refine Steps.cons (fun a w hS hI hp => ok_if (d := 55) rfl rfl (by rw [hS.size]; decide) (((hp.get 2 (by rfl) rfl rfl)).trans (bT (decide_eq_true c4))) (does_val (x_bin rfl ((hp.get 3 (by rfl) rfl rfl)) ((hp.get 4 (by rfl) rfl rfl)) (b_eql _ _ _ _ _ _)) rfl)) ?_
                refine Steps.cons (fun a w hS hI hp => ok_on rfl (does_val (x_pickT rfl (((hp.get 2 (by rfl) rfl rfl)).trans (bT (decide_eq_true c4))) ((hp.get 5 (by rfl) rfl rfl))) rfl)) ?_
                refine Steps.cons (fun a w hS hI hp => ok_on rfl (does_val (x_move rfl ((hp.get 6 (by rfl) rfl rfl))) rfl)) ?_
                refine Steps.cons (fun a w hS hI hp => ok_if (d := 60) rfl rfl (by rw [hS.size]; decide) (((hp.get 7 (by rfl) rfl rfl)).trans (bT (decide_eq_true c5))) (does_loadrow rfl (hS.get 4 rfl) (((hI.2.2.2.1).block g36 (blk_lt hbxw38)).trans hbxw38) Try.underlying28 rfl (by kernel_rfl) rfl)) ?_
                refine Steps.cons (fun a w hS hI hp => ok_if (d := 60) rfl rfl (by rw [hS.size]; decide) (((hp.get 7 (by rfl) rfl rfl)).trans (bT (decide_eq_true c5))) (does_loadrow rfl (hS.get 0 rfl) (((hI.2.2.2.2.2).block g46 (blk_lt hbxw47)).trans hbxw47) Try.underlying28 rfl (by kernel_rfl) rfl)) ?_
                refine Steps.cons (fun a w hS hI hp => ok_if (d := 60) rfl rfl (by rw [hS.size]; decide) (((hp.get 7 (by rfl) rfl rfl)).trans (bT (decide_eq_true c5))) (does_val (x_bin rfl ((hp.get 8 (by rfl) rfl rfl)) ((hp.get 9 (by rfl) rfl rfl)) (carillonlaw06_HeaderBack.eql28 _ _ _ t25_1 t25_2 t25_3 t25_4 t25_5 t25_6 t25_7 t25_8 t25_9 t25_10 t25_11 t25_12 t25_13 t25_14 t25_15 t25_16 t25_17 t25_18 t25_19 t25_20 t25_21 t25_22 t25_23 a0_0 a0_1 a0_2 a0_3 a0_4 a0_5 a0_6 a0_7 0 0 0 0 0 0 0 0 0 0 0 0 0 0 0)) rfl)) ?_
                refine Steps.cons (fun a w hS hI hp => ok_on rfl (does_val (x_pickT rfl (((hp.get 7 (by rfl) rfl rfl)).trans (bT (decide_eq_true c5))) ((hp.get 10 (by rfl) rfl rfl))) rfl)) ?_
                refine Steps.cons (fun a w hS hI hp => ok_on rfl (does_val (x_move rfl ((hp.get 11 (by rfl) rfl rfl))) rfl)) ?_
                refine Steps.cons (fun a w hS hI hp => ok_if (d := 65) rfl rfl (by rw [hS.size]; decide) (((hp.get 12 (by rfl) rfl rfl)).trans (bT c6)) (does_call (by kernel_rfl) rfl ((carillonlaw06_awake.calls k  t49 _  At49).mono fun _ _ h => ⟨_, h.1, h.2, rfl⟩))) ?_
                refine Steps.cons (fun a w hS hI hp => ok_on rfl (does_val (x_pickT rfl (((hp.get 12 (by rfl) rfl rfl)).trans (bT c6)) ((hp.get 13 (by rfl) rfl rfl))) rfl)) ?_
                refine Steps.cons (fun a w hS hI hp => ok_on rfl (does_val (x_assign rfl ((hp.get 14 (by rfl) rfl rfl))) rfl)) ?_
                exact Steps.nil
              clear hS
              intro at50 w51 hS hI hp
              have hBw51_w := hI.1
              have hBw51_w3 := hI.2.1
              have hBw51_w33 := hI.2.2.1
              have hBw51_w38 := hI.2.2.2.1
              have hBw51_w41 := hI.2.2.2.2.1
              have hBw51_w47 := hI.2.2.2.2.2
              replace hS := (hS.nil).cons (hS.get 5 rfl)
              have hv4 : sl _ 4 = .bool t49 := hp 15 (by decide)
              have hBw51_w51 := Below.refl w51.heap.size w51
              have hS := hS.cons hv4
              clear hp hI hv4
              refine hK48 _ _ ?_
              clear hK48 K48
              refine wp_ret ?_
              (try simp only [Exit.then, Exit.inBlock])
              exact bodyPost_ret (v := .bool true) (by rw [results_tmp rfl]; exact congrArg (Result.ok · _) ((hS.get 0 rfl).trans (congrArg Value.bool hret))) hS.nodef ⟨rfl, hBw51_w⟩
            · rw [if_neg c6] at H
              exact absurd H (by simp)
          · rw [if_neg c5] at H
            exact absurd H (by simp)
        · rw [if_neg c4] at H
          exact absurd H (by simp)
      · rw [if_neg c3] at H
        exact absurd H (by simp)
    · rw [if_neg c2] at H
      exact absurd H (by simp)
  · rw [if_neg c1] at H
    by_cases c2 : (t10_1.length : Int) = 0
    · rw [if_pos c2] at H
      obtain ⟨t19, At19, H⟩ := Option.bind_eq_some_iff.mp H
      have hret := Option.some.inj H
      clear H
      refine calls_of_wp (fn := Try.f7) (by kernel_rfl) rfl ?_
      have hS := St.enter #[.agg #[.int .i64 a0_0, .int .i64 a0_1, .int .i64 a0_2, .int .i64 a0_3, .int .u64 a0_4, .int .i64 a0_5, .int .i64 a0_6, .int .i64 a0_7, .int .i64 a0_8, .int .u64 a0_9, .int .i64 a0_10, .int .i64 a0_11, .int .i64 a0_12, .int .i64 a0_13, .int .i64 a0_14, .int .i64 a0_15, .int .i64 a0_16, .int .u64 a0_17, .int .i64 a0_18, .int .i64 a0_19, .int .i64 a0_20, .int .i64 a0_21, .int .i64 a0_22], .int .i64 a1] 68 (by simp) [(0, .agg #[.int .i64 a0_0, .int .i64 a0_1, .int .i64 a0_2, .int .i64 a0_3, .int .u64 a0_4, .int .i64 a0_5, .int .i64 a0_6, .int .i64 a0_7, .int .i64 a0_8, .int .u64 a0_9, .int .i64 a0_10, .int .i64 a0_11, .int .i64 a0_12, .int .i64 a0_13, .int .i64 a0_14, .int .i64 a0_15, .int .i64 a0_16, .int .u64 a0_17, .int .i64 a0_18, .int .i64 a0_19, .int .i64 a0_20, .int .i64 a0_21, .int .i64 a0_22]), (1, .int .i64 a1)] (by simp)
      have HB0 := Below.refl w.heap.size w
      refine wp_seq_k (fun K1 hK1 => ?_)
      refine reg_seq (N := 68) (bs := [(0, .agg #[.int .i64 a0_0, .int .i64 a0_1, .int .i64 a0_2, .int .i64 a0_3, .int .u64 a0_4, .int .i64 a0_5, .int .i64 a0_6, .int .i64 a0_7, .int .i64 a0_8, .int .u64 a0_9, .int .i64 a0_10, .int .i64 a0_11, .int .i64 a0_12, .int .i64 a0_13, .int .i64 a0_14, .int .i64 a0_15, .int .i64 a0_16, .int .u64 a0_17, .int .i64 a0_18, .int .i64 a0_19, .int .i64 a0_20, .int .i64 a0_21, .int .i64 a0_22]), (1, .int .i64 a1)]) (I := fun x => Below w.heap.size w x) (ps := [IsB #[.int .i64 a0_0, .int .i64 a0_1, .int .i64 a0_2, .int .i64 a0_3, .int .u64 a0_4, .int .i64 a0_5, .int .i64 a0_6, .int .i64 a0_7, .int .i64 a0_8, .int .u64 a0_9, .int .i64 a0_10, .int .i64 a0_11, .int .i64 a0_12, .int .i64 a0_13, .int .i64 a0_14, .int .i64 a0_15, .int .i64 a0_16, .int .u64 a0_17, .int .i64 a0_18, .int .i64 a0_19, .int .i64 a0_20, .int .i64 a0_21, .int .i64 a0_22] 28 w.heap.size, IsV (.bool false)]) (by kernel_rfl) ?_ ?_ rfl hS HB0 ?_ ?_
      · exact fun x y hI hb => below_step hI hb
      · exact AllStay.cons (Stays.b _ _ _) (AllStay.cons (Stays.v _) (AllStay.nil))
      · refine Steps.cons (fun a w hS hI hp => ok_on rfl (does_var (x_box rfl (congrArg Value.cells (hS.get 0 rfl))) (hI).size)) ?_
        refine Steps.cons (fun a w hS hI hp => ok_on rfl (does_val (x_assign rfl (rfl)) rfl)) ?_
        exact Steps.nil
      clear hS
      intro at2 w3 hS hI hp
      have hBw3_w := hI
      replace hS := (hS.nil).cons (hS.get 1 rfl)
      obtain ⟨g4, hv2, hgeg4, hbxg4⟩ := (show IsB _ 28 _ (sl _ 2) _ from hp 0 (by decide))
      have hv4 : sl _ 4 = .bool false := hp 1 (by decide)
      have hBw3_w3 := Below.refl w3.heap.size w3
      have hS := hS.cons hv2
      have hS := hS.cons hv4
      clear hp hI hv2 hv4
      refine hK1 _ _ ?_
      clear hK1 K1
      refine wp_seq_k (fun K5 hK5 => ?_)
      refine reg_seq (N := 68) (bs := [(4, .bool false), (2, .pointer (some ⟨g4, 0, none⟩)), (1, .int .i64 a1)]) (I := fun x => Below w.heap.size w x ∧ Below w3.heap.size w3 x) (ps := [IsV (.int .i64 a1), IsV (.int .i64 t6), IsV (.int .i64 (wrap64 (34 + t6))), IsV (.int .i64 (wrap64 (34 + t6)))]) (by kernel_rfl) ?_ ?_ rfl hS ⟨hBw3_w, hBw3_w3⟩ ?_ ?_
      · exact fun x y hI hb => ⟨below_step hI.1 hb, below_step hI.2 hb⟩
      · exact AllStay.cons (Stays.v _) (AllStay.cons (Stays.v _) (AllStay.cons (Stays.v _) (AllStay.cons (Stays.v _) (AllStay.nil))))
      · refine Steps.cons (fun a w hS hI hp => ok_on rfl (does_val (x_move rfl (hS.get 2 rfl)) rfl)) ?_
        refine Steps.cons (fun a w hS hI hp => ok_on rfl (does_call (by kernel_rfl) (ar2 ((hp.get 0 (by rfl) rfl rfl)) (rfl)) ((carillonlaw00_Place.calls a1 367 t6 _  At6).mono fun _ _ h => ⟨_, h.1, h.2.below, rfl⟩))) ?_
        refine Steps.cons (fun a w hS hI hp => ok_on rfl (does_val (x_bin rfl (rfl) ((hp.get 1 (by rfl) rfl rfl)) (b_add _ _ _ _ _)) rfl)) ?_
        refine Steps.cons (fun a w hS hI hp => ok_on rfl (does_val (x_assign rfl ((hp.get 2 (by rfl) rfl rfl))) rfl)) ?_
        exact Steps.nil
      clear hS
      intro at7 w8 hS hI hp
      have hBw8_w := hI.1
      have hBw8_w3 := hI.2
      replace hS := ((hS.nil).cons (hS.get 1 rfl)).cons (hS.get 0 rfl)
      have hv5 : sl _ 5 = .int .i64 (wrap64 (34 + t6)) := hp 3 (by decide)
      have hBw8_w8 := Below.refl w8.heap.size w8
      have hS := hS.cons hv5
      clear hp hI hv5
      refine hK5 _ _ ?_
      clear hK5 K5
      refine wp_seq_k (fun K9 hK9 => ?_)
      refine reg_seq (N := 68) (bs := [(5, .int .i64 (wrap64 (34 + t6))), (4, .bool false), (2, .pointer (some ⟨g4, 0, none⟩))]) (I := fun x => Below w.heap.size w x ∧ Below w3.heap.size w3 x ∧ Below w8.heap.size w8 x) (ps := [IsV (.agg #[.int .i64 a0_0, .int .i64 a0_1, .int .i64 a0_2, .int .i64 a0_3, .int .u64 a0_4, .int .i64 a0_5, .int .i64 a0_6, .int .i64 a0_7, .int .i64 a0_8, .int .u64 a0_9, .int .i64 a0_10, .int .i64 a0_11, .int .i64 a0_12, .int .i64 a0_13, .int .i64 a0_14, .int .i64 a0_15, .int .i64 a0_16, .int .u64 a0_17, .int .i64 a0_18, .int .i64 a0_19, .int .i64 a0_20, .int .i64 a0_21, .int .i64 a0_22]), IsV (.int .i64 (wrap64 (34 + t6))), IsTR (Kd.int .u8) 5 w8.heap.size t10_1 [.bool t10_2], IsTR (Kd.int .u8) 5 w8.heap.size t10_1 [.bool t10_2], IsR (Kd.int .u8) 5 w8.heap.size t10_1, IsV (.bool t10_2), IsR (Kd.int .u8) 5 w8.heap.size t10_1, IsV (.bool t10_2)]) (by kernel_rfl) ?_ ?_ rfl hS ⟨hBw8_w, hBw8_w3, hBw8_w8⟩ ?_ ?_
      · exact fun x y hI hb => ⟨below_step hI.1 hb, below_step hI.2.1 hb, below_step hI.2.2 hb⟩
      · exact AllStay.cons (Stays.v _) (AllStay.cons (Stays.v _) (AllStay.cons (Stays.tr _ _ _ _ _) (AllStay.cons (Stays.tr _ _ _ _ _) (AllStay.cons (Stays.r _ _ _ _) (AllStay.cons (Stays.v _) (AllStay.cons (Stays.r _ _ _ _) (AllStay.cons (Stays.v _) (AllStay.nil))))))))
      · refine Steps.cons (fun a w hS hI hp => ok_on rfl (does_loadrow rfl (hS.get 2 rfl) (((hI.2.1).block g4 (blk_lt hbxg4)).trans hbxg4) Try.underlying28 rfl (by kernel_rfl) rfl)) ?_
        refine Steps.cons (fun a w hS hI hp => ok_on rfl (does_val (x_move rfl (hS.get 0 rfl)) rfl)) ?_
        refine Steps.cons (fun a w hS hI hp => ok_on rfl (does_call (by kernel_rfl) (ar2 ((hp.get 0 (by rfl) rfl rfl)) ((hp.get 1 (by rfl) rfl rfl))) ((header_Put.calls k a0_0 a0_1 a0_2 a0_3 a0_4 a0_5 a0_6 a0_7 a0_8 a0_9 a0_10 a0_11 a0_12 a0_13 a0_14 a0_15 a0_16 a0_17 a0_18 a0_19 a0_20 a0_21 a0_22 (wrap64 (34 + t6)) t10_1 t10_2 _  At10).mono fun _ _ h => h.elim fun v0 h => ⟨_, h.1, h.2.2, v0, rfl, Kd.R_lower h.2.1 hI.2.2.size⟩))) ?_
        refine Steps.cons (fun a w hS hI hp => ok_on rfl (does_val (x_move rfl rfl) ((hp.get 2 (by rfl) rfl rfl)))) ?_
        refine Steps.cons (fun a w hS hI hp => ok_on rfl (((hp.get 3 (by rfl) rfl rfl)).elim fun v0 h0 => does_val (x_extract rfl h0.1 rfl) h0.2)) ?_
        refine Steps.cons (fun a w hS hI hp => ok_on rfl (((hp.get 3 (by rfl) rfl rfl)).elim fun v0 h0 => does_val (x_extract rfl h0.1 rfl) rfl)) ?_
        refine Steps.cons (fun a w hS hI hp => ok_on rfl (does_val (x_assign rfl rfl) ((hp.get 4 (by rfl) rfl rfl)))) ?_
        refine Steps.cons (fun a w hS hI hp => ok_on rfl (does_val (x_assign rfl ((hp.get 5 (by rfl) rfl rfl))) rfl)) ?_
        exact Steps.nil
      clear hS
      intro at11 w12 hS hI hp
      have hBw12_w := hI.1
      have hBw12_w3 := hI.2.1
      have hBw12_w8 := hI.2.2
      obtain ⟨A13, C13, hv6, hl13, hc13⟩ := Kd.R_reads (show Kd.R (Kd.int .u8) 5 w12 w8.heap.size (fun _ => True) (sl _ 6) t10_1 from hp 6 (by decide))
      have ho13 : Kd.R (Kd.int .u8) 5 w12 w8.heap.size (fun _ => True) (.slice A13 t10_1.length C13) t10_1 := hv6 ▸ (hp 6 (by decide))
      have hv7 : sl _ 7 = .bool t10_2 := hp 7 (by decide)
      have hBw12_w12 := Below.refl w12.heap.size w12
      have hS := hS.cons hv6
      have hS := hS.cons hv7
      clear hp hI hv6 hv7
      refine hK9 _ _ ?_
      clear hK9 K9
      refine wp_seq_k (fun K14 hK14 => ?_)
      refine wp_seq_k (fun K15 hK15 => ?_)
      refine reg_seq (N := 68) (bs := [(7, .bool t10_2), (6, .slice A13 t10_1.length C13), (5, .int .i64 (wrap64 (34 + t6))), (4, .bool false), (2, .pointer (some ⟨g4, 0, none⟩))]) (I := fun x => Below w.heap.size w x ∧ Below w3.heap.size w3 x ∧ Below w8.heap.size w8 x ∧ Below w12.heap.size w12 x) (ps := [IsV (.bool t10_2), IsV (.bool (!t10_2))]) (by kernel_rfl) ?_ ?_ rfl hS ⟨hBw12_w, hBw12_w3, hBw12_w8, hBw12_w12⟩ ?_ ?_
      · exact fun x y hI hb => ⟨below_step hI.1 hb, below_step hI.2.1 hb, below_step hI.2.2.1 hb, below_step hI.2.2.2 hb⟩
      · exact AllStay.cons (Stays.v _) (AllStay.cons (Stays.v _) (AllStay.nil))
      · refine Steps.cons (fun a w hS hI hp => ok_on rfl (does_val (x_move rfl (hS.get 0 rfl)) rfl)) ?_
        refine Steps.cons (fun a w hS hI hp => ok_on rfl (does_val (x_not rfl ((hp.get 0 (by rfl) rfl rfl))) rfl)) ?_
        exact Steps.nil
      clear hS
      intro at16 w17 hS hI hp
      have hBw17_w := hI.1
      have hBw17_w3 := hI.2.1
      have hBw17_w8 := hI.2.2.1
      have hBw17_w12 := hI.2.2.2
      replace hS := ((((hS.nil).cons (hS.get 4 rfl)).cons (hS.get 3 rfl)).cons (hS.get 2 rfl)).cons (hS.get 1 rfl)
      have hv22 : sl _ 22 = .bool (!t10_2) := hp 1 (by decide)
      have hBw17_w17 := Below.refl w17.heap.size w17
      have hS := hS.cons hv22
      clear hp hI hv22
      refine hK15 _ _ ?_
      clear hK15 K15
      refine wp_cond_true ((hS.get 0 rfl).trans (bT (congrArg (!·) (Bool.eq_false_iff.2 c1)))) ?_
      refine wp_seq_k (fun K18 hK18 => ?_)
      replace hS := ((((hS.nil).cons (hS.get 4 rfl)).cons (hS.get 2 rfl)).cons (hS.get 1 rfl)).cons (hS.get 0 rfl)
      refine reg_seq (N := 68) (bs := [(22, .bool (!t10_2)), (6, .slice A13 t10_1.length C13), (5, .int .i64 (wrap64 (34 + t6))), (2, .pointer (some ⟨g4, 0, none⟩))]) (I := fun x => Below w.heap.size w x ∧ Below w3.heap.size w3 x ∧ Below w8.heap.size w8 x ∧ Below w12.heap.size w12 x ∧ Below w17.heap.size w17 x) (ps := [IsV (.slice A13 t10_1.length C13), IsV (.int .i64 (t10_1.length : Int)), IsV (.bool (decide ((t10_1.length : Int) = 0))), IsV (.bool (decide ((t10_1.length : Int) = 0))), IsV (.bool t19), IsV (.bool t19), IsV (.bool t19)]) (by kernel_rfl) ?_ ?_ rfl hS ⟨hBw17_w, hBw17_w3, hBw17_w8, hBw17_w12, hBw17_w17⟩ ?_ ?_
      · exact fun x y hI hb => ⟨below_step hI.1 hb, below_step hI.2.1 hb, below_step hI.2.2.1 hb, below_step hI.2.2.2.1 hb, below_step hI.2.2.2.2 hb⟩
      · exact AllStay.cons (Stays.v _) (AllStay.cons (Stays.v _) (AllStay.cons (Stays.v _) (AllStay.cons (Stays.v _) (AllStay.cons (Stays.v _) (AllStay.cons (Stays.v _) (AllStay.cons (Stays.v _) (AllStay.nil)))))))
      · refine Steps.cons (fun a w hS hI hp => ok_on rfl (does_val (x_move rfl (hS.get 1 rfl)) rfl)) ?_
        refine Steps.cons (fun a w hS hI hp => ok_on rfl (does_val (x_len (e := 5) rfl (by kernel_rfl) ((hp.get 0 (by rfl) rfl rfl))) rfl)) ?_
        refine Steps.cons (fun a w hS hI hp => ok_on rfl (does_val (x_bin rfl ((hp.get 1 (by rfl) rfl rfl)) (rfl) (b_eql _ _ _ _ _ _)) rfl)) ?_
        refine Steps.cons (fun a w hS hI hp => ok_on rfl (does_val (x_move rfl ((hp.get 2 (by rfl) rfl rfl))) rfl)) ?_
        refine Steps.cons (fun a w hS hI hp => ok_if (d := 26) rfl rfl (by rw [hS.size]; decide) (((hp.get 3 (by rfl) rfl rfl)).trans (bT (decide_eq_true c2))) (does_call (by kernel_rfl) rfl ((carillonlaw06_awake.calls k  t19 _  At19).mono fun _ _ h => ⟨_, h.1, h.2, rfl⟩))) ?_
        refine Steps.cons (fun a w hS hI hp => ok_on rfl (does_val (x_pickT rfl (((hp.get 3 (by rfl) rfl rfl)).trans (bT (decide_eq_true c2))) ((hp.get 4 (by rfl) rfl rfl))) rfl)) ?_
        refine Steps.cons (fun a w hS hI hp => ok_on rfl (does_val (x_assign rfl ((hp.get 5 (by rfl) rfl rfl))) rfl)) ?_
        exact Steps.nil
      clear hS
      intro at20 w21 hS hI hp
      have hBw21_w := hI.1
      have hBw21_w3 := hI.2.1
      have hBw21_w8 := hI.2.2.1
      have hBw21_w12 := hI.2.2.2.1
      have hBw21_w17 := hI.2.2.2.2
      have hv4 : sl _ 4 = .bool t19 := hp 6 (by decide)
      have hBw21_w21 := Below.refl w21.heap.size w21
      have hS := hS.cons hv4
      clear hp hI hv4
      refine hK18 _ _ ?_
      clear hK18 K18
      refine wp_ret ?_
      (try simp only [Exit.then, Exit.inBlock])
      exact bodyPost_ret (v := .bool true) (by rw [results_tmp rfl]; exact congrArg (Result.ok · _) ((hS.get 0 rfl).trans (congrArg Value.bool hret))) hS.nodef ⟨rfl, hBw21_w⟩
    · rw [if_neg c2] at H
      exact absurd H (by simp)

/-- The one pure statement of carillonlaw06_HeaderBack. -/
def carillonlaw06_HeaderBack.Pure : Prop := ∀ (a0_0 : Int) (a0_1 : Int) (a0_2 : Int) (a0_3 : Int) (a0_4 : Int) (a0_5 : Int) (a0_6 : Int) (a0_7 : Int) (a0_8 : Int) (a0_9 : Int) (a0_10 : Int) (a0_11 : Int) (a0_12 : Int) (a0_13 : Int) (a0_14 : Int) (a0_15 : Int) (a0_16 : Int) (a0_17 : Int) (a0_18 : Int) (a0_19 : Int) (a0_20 : Int) (a0_21 : Int) (a0_22 : Int) (a1 : Int), (Lit.int .i64 a0_0).wf = true → (Lit.int .i64 a0_1).wf = true → (Lit.int .i64 a0_2).wf = true → (Lit.int .i64 a0_3).wf = true → (Lit.int .u64 a0_4).wf = true → (Lit.int .i64 a0_5).wf = true → (Lit.int .i64 a0_6).wf = true → (Lit.int .i64 a0_7).wf = true → (Lit.int .i64 a0_8).wf = true → (Lit.int .u64 a0_9).wf = true → (Lit.int .i64 a0_10).wf = true → (Lit.int .i64 a0_11).wf = true → (Lit.int .i64 a0_12).wf = true → (Lit.int .i64 a0_13).wf = true → (Lit.int .i64 a0_14).wf = true → (Lit.int .i64 a0_15).wf = true → (Lit.int .i64 a0_16).wf = true → (Lit.int .u64 a0_17).wf = true → (Lit.int .i64 a0_18).wf = true → (Lit.int .i64 a0_19).wf = true → (Lit.int .i64 a0_20).wf = true → (Lit.int .i64 a0_21).wf = true → (Lit.int .i64 a0_22).wf = true → (Lit.int .i64 a1).wf = true → ∃ k, carillonlaw06_HeaderBack.f k a0_0 a0_1 a0_2 a0_3 a0_4 a0_5 a0_6 a0_7 a0_8 a0_9 a0_10 a0_11 a0_12 a0_13 a0_14 a0_15 a0_16 a0_17 a0_18 a0_19 a0_20 a0_21 a0_22 a1 = some true
theorem carillonlaw06_HeaderBack.walk (P : carillonlaw06_HeaderBack.Pure) (a0_0 : Int) (a0_1 : Int) (a0_2 : Int) (a0_3 : Int) (a0_4 : Int) (a0_5 : Int) (a0_6 : Int) (a0_7 : Int) (a0_8 : Int) (a0_9 : Int) (a0_10 : Int) (a0_11 : Int) (a0_12 : Int) (a0_13 : Int) (a0_14 : Int) (a0_15 : Int) (a0_16 : Int) (a0_17 : Int) (a0_18 : Int) (a0_19 : Int) (a0_20 : Int) (a0_21 : Int) (a0_22 : Int) (a1 : Int) (w : World) (w0_0 : (Lit.int .i64 a0_0).wf = true) (w0_1 : (Lit.int .i64 a0_1).wf = true) (w0_2 : (Lit.int .i64 a0_2).wf = true) (w0_3 : (Lit.int .i64 a0_3).wf = true) (w0_4 : (Lit.int .u64 a0_4).wf = true) (w0_5 : (Lit.int .i64 a0_5).wf = true) (w0_6 : (Lit.int .i64 a0_6).wf = true) (w0_7 : (Lit.int .i64 a0_7).wf = true) (w0_8 : (Lit.int .i64 a0_8).wf = true) (w0_9 : (Lit.int .u64 a0_9).wf = true) (w0_10 : (Lit.int .i64 a0_10).wf = true) (w0_11 : (Lit.int .i64 a0_11).wf = true) (w0_12 : (Lit.int .i64 a0_12).wf = true) (w0_13 : (Lit.int .i64 a0_13).wf = true) (w0_14 : (Lit.int .i64 a0_14).wf = true) (w0_15 : (Lit.int .i64 a0_15).wf = true) (w0_16 : (Lit.int .i64 a0_16).wf = true) (w0_17 : (Lit.int .u64 a0_17).wf = true) (w0_18 : (Lit.int .i64 a0_18).wf = true) (w0_19 : (Lit.int .i64 a0_19).wf = true) (w0_20 : (Lit.int .i64 a0_20).wf = true) (w0_21 : (Lit.int .i64 a0_21).wf = true) (w0_22 : (Lit.int .i64 a0_22).wf = true) (w1 : (Lit.int .i64 a1).wf = true) :
    Calls Try.prog 7 #[.agg #[.int .i64 a0_0, .int .i64 a0_1, .int .i64 a0_2, .int .i64 a0_3, .int .u64 a0_4, .int .i64 a0_5, .int .i64 a0_6, .int .i64 a0_7, .int .i64 a0_8, .int .u64 a0_9, .int .i64 a0_10, .int .i64 a0_11, .int .i64 a0_12, .int .i64 a0_13, .int .i64 a0_14, .int .i64 a0_15, .int .i64 a0_16, .int .u64 a0_17, .int .i64 a0_18, .int .i64 a0_19, .int .i64 a0_20, .int .i64 a0_21, .int .i64 a0_22], .int .i64 a1] w fun e w' => e = .returned (.bool true) ∧ Below w.heap.size w w' := by
  obtain ⟨k, h⟩ := P a0_0 a0_1 a0_2 a0_3 a0_4 a0_5 a0_6 a0_7 a0_8 a0_9 a0_10 a0_11 a0_12 a0_13 a0_14 a0_15 a0_16 a0_17 a0_18 a0_19 a0_20 a0_21 a0_22 a1 w0_0 w0_1 w0_2 w0_3 w0_4 w0_5 w0_6 w0_7 w0_8 w0_9 w0_10 w0_11 w0_12 w0_13 w0_14 w0_15 w0_16 w0_17 w0_18 w0_19 w0_20 w0_21 w0_22 w1
  refine (carillonlaw06_HeaderBack.calls k a0_0 a0_1 a0_2 a0_3 a0_4 a0_5 a0_6 a0_7 a0_8 a0_9 a0_10 a0_11 a0_12 a0_13 a0_14 a0_15 a0_16 a0_17 a0_18 a0_19 a0_20 a0_21 a0_22 a1 w  h).mono ?_
  rintro e w' ⟨rfl, hd⟩
  exact ⟨rfl, hd⟩

end Go.Proofs.Ytcflafkafbpibaa.P
