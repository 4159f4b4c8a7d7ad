/- Functions and loops of the given program as Lean functions, and that the code comes to what they say: written by this session's own program; Lean checks it. -/
import Derived.Test.YtcflafkafbpibaaPx0
import Derived.Test.YtcflafkafbpibaaPx3
import Derived.Test.YtcflafkafbpibaaPx4
import Derived.Test.YtcflafkafbpibaaPx6
import Derived.Test.YtcflafkafbpibaaPx7
namespace Go.Proofs.Ytcflafkafbpibaa.P
open Go.RowKit Go.Proofs.YtcflafkafbpibaaW.PrintWords Go.Proofs.YtcflafkafbpibaaW.PrintLast Go.Proofs.YtcflafkafbpibaaW.PrintMore
attribute [local go_sem] max2_int min2_int max_two min_two max_three min_three max_four min_four   -- for this text's walks alone
set_option linter.unusedVariables false
set_option linter.unusedSimpArgs false

/-! ### carillonlaw06_HeaderLengths: function 8: by our own printer -/
def carillonlaw06_HeaderLengths.f (k : Nat) (a0_0 : Int) (a0_1 : Int) (a0_2 : Int) (a0_3 : Int) (a0_4 : Int) (a0_5 : Int) (a0_6 : Int) (a0_7 : Int) (a0_8 : Int) (a0_9 : Int) (a0_10 : Int) (a0_11 : Int) (a0_12 : Int) (a0_13 : Int) (a0_14 : Int) (a0_15 : Int) (a0_16 : Int) (a0_17 : Int) (a0_18 : Int) (a0_19 : Int) (a0_20 : Int) (a0_21 : Int) (a0_22 : Int) (a1 : Int) : Option (Bool) := (carillonlaw00_Place.f a1 365).bind fun t6 => ((header_Put.f k a0_0 a0_1 a0_2 a0_3 a0_4 a0_5 a0_6 a0_7 a0_8 a0_9 a0_10 a0_11 a0_12 a0_13 a0_14 a0_15 a0_16 a0_17 a0_18 a0_19 a0_20 a0_21 a0_22 (wrap64 (35 + t6))).bind fun t10 => (if t10.2 = true then (if 0 ≤ (wrap64 ((wrap64 (35 + t6)) - 34)) then (if (t10.1.length + (wrap64 ((wrap64 (35 + t6)) - 34) : Int).toNat) * 1 ≤ 140737488355328 then ((carillonlaw00_Bytes.f (t10.1 ++ List.replicate (wrap64 ((wrap64 (35 + t6)) - 34) : Int).toNat 0 : List Int)).bind fun t27 => (if (t27.length + [0].length) * 1 ≤ 140737488355328 then ((header_Get.f k (t27 ++ [0] : List Int)).bind fun t36 => (if 0 ≤ (wrap64 ((wrap64 (35 + t6)) - 1)) then (if (wrap64 ((wrap64 (35 + t6)) - 1)) ≤ ((t10.1 ++ List.replicate (wrap64 ((wrap64 (35 + t6)) - 34) : Int).toNat 0 : List Int).length : Int) then ((header_Get.f k ((t10.1 ++ List.replicate (wrap64 ((wrap64 (35 + t6)) - 34) : Int).toNat 0 : List Int).take (wrap64 ((wrap64 (35 + t6)) - 1) : Int).toNat)).bind fun t55 => (if 33 ≤ ((t10.1 ++ List.replicate (wrap64 ((wrap64 (35 + t6)) - 34) : Int).toNat 0 : List Int).length : Int) then ((header_Get.f k ((t10.1 ++ List.replicate (wrap64 ((wrap64 (35 + t6)) - 34) : Int).toNat 0 : List Int).take (33 : Int).toNat)).bind fun t65 => (if t36.2.2.2.2.2.2.2.2.2.2.2.2.2.2.2.2.2.2.2.2.2.2.2.2 = 3 then (if t55.2.2.2.2.2.2.2.2.2.2.2.2.2.2.2.2.2.2.2.2.2.2.2.2 = 2 then (if t65.2.2.2.2.2.2.2.2.2.2.2.2.2.2.2.2.2.2.2.2.2.2.2.2 = 2 then ((carillonlaw06_awake.f k ).bind fun t75 => (some t75)) else (some false)) else (some false)) else (some false))) else (none))) else (none)) else (none))) else (none))) else (none)) else (none)) else (if (t10.1.length : Int) = 0 then ((carillonlaw06_awake.f k ).bind fun t19 => (some t19)) else (some false))))
open Go.Proofs.Ytcflafkafbpibaa.E in
set_option maxHeartbeats 8000000 in
set_option maxRecDepth 100000 in
theorem carillonlaw06_HeaderLengths.calls (k : Nat) (a0_0 : Int) (a0_1 : Int) (a0_2 : Int) (a0_3 : Int) (a0_4 : Int) (a0_5 : Int) (a0_6 : Int) (a0_7 : Int) (a0_8 : Int) (a0_9 : Int) (a0_10 : Int) (a0_11 : Int) (a0_12 : Int) (a0_13 : Int) (a0_14 : Int) (a0_15 : Int) (a0_16 : Int) (a0_17 : Int) (a0_18 : Int) (a0_19 : Int) (a0_20 : Int) (a0_21 : Int) (a0_22 : Int) (a1 : Int) (w : World) (h : carillonlaw06_HeaderLengths.f k a0_0 a0_1 a0_2 a0_3 a0_4 a0_5 a0_6 a0_7 a0_8 a0_9 a0_10 a0_11 a0_12 a0_13 a0_14 a0_15 a0_16 a0_17 a0_18 a0_19 a0_20 a0_21 a0_22 a1 = some true) :
    Calls Try.prog 8 #[.agg #[.int .i64 a0_0, .int .i64 a0_1, .int .i64 a0_2, .int .i64 a0_3, .int .u64 a0_4, .int .i64 a0_5, .int .i64 a0_6, .int .i64 a0_7, .int .i64 a0_8, .int .u64 a0_9, .int .i64 a0_10, .int .i64 a0_11, .int .i64 a0_12, .int .i64 a0_13, .int .i64 a0_14, .int .i64 a0_15, .int .i64 a0_16, .int .u64 a0_17, .int .i64 a0_18, .int .i64 a0_19, .int .i64 a0_20, .int .i64 a0_21, .int .i64 a0_22], .int .i64 a1] w fun e w' => e = .returned (.bool true) ∧ Below w.heap.size w w' := by
  have H := h
  clear h
  unfold carillonlaw06_HeaderLengths.f at H
  obtain ⟨t6, At6, H⟩ := Option.bind_eq_some_iff.mp H
  obtain ⟨t10, At10, H⟩ := Option.bind_eq_some_iff.mp H
  obtain ⟨t10_1, t10_2⟩ := t10
  (try dsimp only at H)
  by_cases c1 : t10_2 = true
  · rw [if_pos c1] at H
    by_cases c2 : 0 ≤ (wrap64 ((wrap64 (35 + t6)) - 34))
    · rw [if_pos c2] at H
      by_cases c3 : (t10_1.length + (wrap64 ((wrap64 (35 + t6)) - 34) : Int).toNat) * 1 ≤ 140737488355328
      · rw [if_pos c3] at H
        obtain ⟨t27, At27, H⟩ := Option.bind_eq_some_iff.mp H
        by_cases c4 : (t27.length + [0].length) * 1 ≤ 140737488355328
        · rw [if_pos c4] at H
          obtain ⟨t36, At36, H⟩ := Option.bind_eq_some_iff.mp H
          obtain ⟨t36_1, t36_2, t36_3, t36_4, t36_5, t36_6, t36_7, t36_8, t36_9, t36_10, t36_11, t36_12, t36_13, t36_14, t36_15, t36_16, t36_17, t36_18, t36_19, t36_20, t36_21, t36_22, t36_23, t36_24, t36_25⟩ := t36
          (try dsimp only at H)
          by_cases c5 : 0 ≤ (wrap64 ((wrap64 (35 + t6)) - 1))
          · rw [if_pos c5] at H
            by_cases c6 : (wrap64 ((wrap64 (35 + t6)) - 1)) ≤ ((t10_1 ++ List.replicate (wrap64 ((wrap64 (35 + t6)) - 34) : Int).toNat 0 : List Int).length : Int)
            · rw [if_pos c6] at H
              obtain ⟨t55, At55, H⟩ := Option.bind_eq_some_iff.mp H
              obtain ⟨t55_1, t55_2, t55_3, t55_4, t55_5, t55_6, t55_7, t55_8, t55_9, t55_10, t55_11, t55_12, t55_13, t55_14, t55_15, t55_16, t55_17, t55_18, t55_19, t55_20, t55_21, t55_22, t55_23, t55_24, t55_25⟩ := t55
              (try dsimp only at H)
              by_cases c7 : 33 ≤ ((t10_1 ++ List.replicate (wrap64 ((wrap64 (35 + t6)) - 34) : Int).toNat 0 : List Int).length : Int)
              · rw [if_pos c7] at H
                obtain ⟨t65, At65, H⟩ := Option.bind_eq_some_iff.mp H
                obtain ⟨t65_1, t65_2, t65_3, t65_4, t65_5, t65_6, t65_7, t65_8, t65_9, t65_10, t65_11, t65_12, t65_13, t65_14, t65_15, t65_16, t65_17, t65_18, t65_19, t65_20, t65_21, t65_22, t65_23, t65_24, t65_25⟩ := t65
                (try dsimp only at H)
                by_cases c8 : t36_25 = 3
                · rw [if_pos c8] at H
                  by_cases c9 : t55_25 = 2
                  · rw [if_pos c9] at H
                    by_cases c10 : t65_25 = 2
                    · rw [if_pos c10] at H
                      obtain ⟨t75, At75, H⟩ := Option.bind_eq_some_iff.mp H
                      have hret := Option.some.inj H
                      clear H
                      refine calls_of_wp (fn := Try.f8) (by kernel_rfl) rfl ?_
                      have hS := St.enter #[.agg #[.int .i64 a0_0, .int .i64 a0_1, .int .i64 a0_2, .int .i64 a0_3, .int .u64 a0_4, .int .i64 a0_5, .int .i64 a0_6, .int .i64 a0_7, .int .i64 a0_8, .int .u64 a0_9, .int .i64 a0_10, .int .i64 a0_11, .int .i64 a0_12, .int .i64 a0_13, .int .i64 a0_14, .int .i64 a0_15, .int .i64 a0_16, .int .u64 a0_17, .int .i64 a0_18, .int .i64 a0_19, .int .i64 a0_20, .int .i64 a0_21, .int .i64 a0_22], .int .i64 a1] 76 (by simp) [(0, .agg #[.int .i64 a0_0, .int .i64 a0_1, .int .i64 a0_2, .int .i64 a0_3, .int .u64 a0_4, .int .i64 a0_5, .int .i64 a0_6, .int .i64 a0_7, .int .i64 a0_8, .int .u64 a0_9, .int .i64 a0_10, .int .i64 a0_11, .int .i64 a0_12, .int .i64 a0_13, .int .i64 a0_14, .int .i64 a0_15, .int .i64 a0_16, .int .u64 a0_17, .int .i64 a0_18, .int .i64 a0_19, .int .i64 a0_20, .int .i64 a0_21, .int .i64 a0_22]), (1, .int .i64 a1)] (by simp)
                      have HB0 := Below.refl w.heap.size w
                      refine wp_seq_k (fun K1 hK1 => ?_)
                      refine reg_seq (N := 76) (bs := [(0, .agg #[.int .i64 a0_0, .int .i64 a0_1, .int .i64 a0_2, .int .i64 a0_3, .int .u64 a0_4, .int .i64 a0_5, .int .i64 a0_6, .int .i64 a0_7, .int .i64 a0_8, .int .u64 a0_9, .int .i64 a0_10, .int .i64 a0_11, .int .i64 a0_12, .int .i64 a0_13, .int .i64 a0_14, .int .i64 a0_15, .int .i64 a0_16, .int .u64 a0_17, .int .i64 a0_18, .int .i64 a0_19, .int .i64 a0_20, .int .i64 a0_21, .int .i64 a0_22]), (1, .int .i64 a1)]) (I := fun x => Below w.heap.size w x) (ps := [IsB #[.int .i64 a0_0, .int .i64 a0_1, .int .i64 a0_2, .int .i64 a0_3, .int .u64 a0_4, .int .i64 a0_5, .int .i64 a0_6, .int .i64 a0_7, .int .i64 a0_8, .int .u64 a0_9, .int .i64 a0_10, .int .i64 a0_11, .int .i64 a0_12, .int .i64 a0_13, .int .i64 a0_14, .int .i64 a0_15, .int .i64 a0_16, .int .u64 a0_17, .int .i64 a0_18, .int .i64 a0_19, .int .i64 a0_20, .int .i64 a0_21, .int .i64 a0_22] 28 w.heap.size, IsV (.bool false)]) (by kernel_rfl) ?_ ?_ rfl hS HB0 ?_ ?_
                      · exact fun x y hI hb => below_step hI hb
                      · exact AllStay.cons (Stays.b _ _ _) (AllStay.cons (Stays.v _) (AllStay.nil))
                      · refine Steps.cons (fun a w hS hI hp => ok_on rfl (does_var (x_box rfl (congrArg Value.cells (hS.get 0 rfl))) (hI).size)) ?_
                        refine Steps.cons (fun a w hS hI hp => ok_on rfl (does_val (x_assign rfl (rfl)) rfl)) ?_
                        exact Steps.nil
                      clear hS
                      intro at2 w3 hS hI hp
                      have hBw3_w := hI
                      replace hS := (hS.nil).cons (hS.get 1 rfl)
                      obtain ⟨g4, hv2, hgeg4, hbxg4⟩ := (show IsB _ 28 _ (sl _ 2) _ from hp 0 (by decide))
                      have hv4 : sl _ 4 = .bool false := hp 1 (by decide)
                      have hBw3_w3 := Below.refl w3.heap.size w3
                      have hS := hS.cons hv2
                      have hS := hS.cons hv4
                      clear hp hI hv2 hv4
                      refine hK1 _ _ ?_
                      clear hK1 K1
                      refine wp_seq_k (fun K5 hK5 => ?_)
                      refine reg_seq (N := 76) (bs := [(4, .bool false), (2, .pointer (some ⟨g4, 0, none⟩)), (1, .int .i64 a1)]) (I := fun x => Below w.heap.size w x ∧ Below w3.heap.size w3 x) (ps := [IsV (.int .i64 a1), IsV (.int .i64 t6), IsV (.int .i64 (wrap64 (35 + t6))), IsV (.int .i64 (wrap64 (35 + t6)))]) (by kernel_rfl) ?_ ?_ rfl hS ⟨hBw3_w, hBw3_w3⟩ ?_ ?_
                      · exact fun x y hI hb => ⟨below_step hI.1 hb, below_step hI.2 hb⟩
                      · exact AllStay.cons (Stays.v _) (AllStay.cons (Stays.v _) (AllStay.cons (Stays.v _) (AllStay.cons (Stays.v _) (AllStay.nil))))
                      · refine Steps.cons (fun a w hS hI hp => ok_on rfl (does_val (x_move rfl (hS.get 2 rfl)) rfl)) ?_
                        refine Steps.cons (fun a w hS hI hp => ok_on rfl (does_call (by kernel_rfl) (ar2 ((hp.get 0 (by rfl) rfl rfl)) (rfl)) ((carillonlaw00_Place.calls a1 365 t6 _  At6).mono fun _ _ h => ⟨_, h.1, h.2.below, rfl⟩))) ?_
                        refine Steps.cons (fun a w hS hI hp => ok_on rfl (does_val (x_bin rfl (rfl) ((hp.get 1 (by rfl) rfl rfl)) (b_add _ _ _ _ _)) rfl)) ?_
                        refine Steps.cons (fun a w hS hI hp => ok_on rfl (does_val (x_assign rfl ((hp.get 2 (by rfl) rfl rfl))) rfl)) ?_
                        exact Steps.nil
                      clear hS
                      intro at7 w8 hS hI hp
                      have hBw8_w := hI.1
                      have hBw8_w3 := hI.2
                      replace hS := ((hS.nil).cons (hS.get 1 rfl)).cons (hS.get 0 rfl)
                      have hv5 : sl _ 5 = .int .i64 (wrap64 (35 + t6)) := hp 3 (by decide)
                      have hBw8_w8 := Below.refl w8.heap.size w8
                      have hS := hS.cons hv5
                      clear hp hI hv5
                      refine hK5 _ _ ?_
                      clear hK5 K5
                      refine wp_seq_k (fun K9 hK9 => ?_)
                      refine reg_seq (N := 76) (bs := [(5, .int .i64 (wrap64 (35 + t6))), (4, .bool false), (2, .pointer (some ⟨g4, 0, none⟩))]) (I := fun x => Below w.heap.size w x ∧ Below w3.heap.size w3 x ∧ Below w8.heap.size w8 x) (ps := [IsV (.agg #[.int .i64 a0_0, .int .i64 a0_1, .int .i64 a0_2, .int .i64 a0_3, .int .u64 a0_4, .int .i64 a0_5, .int .i64 a0_6, .int .i64 a0_7, .int .i64 a0_8, .int .u64 a0_9, .int .i64 a0_10, .int .i64 a0_11, .int .i64 a0_12, .int .i64 a0_13, .int .i64 a0_14, .int .i64 a0_15, .int .i64 a0_16, .int .u64 a0_17, .int .i64 a0_18, .int .i64 a0_19, .int .i64 a0_20, .int .i64 a0_21, .int .i64 a0_22]), IsV (.int .i64 (wrap64 (35 + t6))), IsTR (Kd.int .u8) 5 w8.heap.size t10_1 [.bool t10_2], IsTR (Kd.int .u8) 5 w8.heap.size t10_1 [.bool t10_2], IsR (Kd.int .u8) 5 w8.heap.size t10_1, IsV (.bool t10_2), IsR (Kd.int .u8) 5 w8.heap.size t10_1, IsV (.bool t10_2)]) (by kernel_rfl) ?_ ?_ rfl hS ⟨hBw8_w, hBw8_w3, hBw8_w8⟩ ?_ ?_
                      · exact fun x y hI hb => ⟨below_step hI.1 hb, below_step hI.2.1 hb, below_step hI.2.2 hb⟩
                      · exact AllStay.cons (Stays.v _) (AllStay.cons (Stays.v _) (AllStay.cons (Stays.tr _ _ _ _ _) (AllStay.cons (Stays.tr _ _ _ _ _) (AllStay.cons (Stays.r _ _ _ _) (AllStay.cons (Stays.v _) (AllStay.cons (Stays.r _ _ _ _) (AllStay.cons (Stays.v _) (AllStay.nil))))))))
                      · refine Steps.cons (fun a w hS hI hp => ok_on rfl (does_loadrow rfl (hS.get 2 rfl) (((hI.2.1).block g4 (blk_lt hbxg4)).trans hbxg4) Try.underlying28 rfl (by kernel_rfl) rfl)) ?_
                        refine Steps.cons (fun a w hS hI hp => ok_on rfl (does_val (x_move rfl (hS.get 0 rfl)) rfl)) ?_
                        refine Steps.cons (fun a w hS hI hp => ok_on rfl (does_call (by kernel_rfl) (ar2 ((hp.get 0 (by rfl) rfl rfl)) ((hp.get 1 (by rfl) rfl rfl))) ((header_Put.calls k a0_0 a0_1 a0_2 a0_3 a0_4 a0_5 a0_6 a0_7 a0_8 a0_9 a0_10 a0_11 a0_12 a0_13 a0_14 a0_15 a0_16 a0_17 a0_18 a0_19 a0_20 a0_21 a0_22 (wrap64 (35 + t6)) t10_1 t10_2 _  At10).mono fun _ _ h => h.elim fun v0 h => ⟨_, h.1, h.2.2, v0, rfl, Kd.R_lower h.2.1 hI.2.2.size⟩))) ?_
                        refine Steps.cons (fun a w hS hI hp => ok_on rfl (does_val (x_move rfl rfl) ((hp.get 2 (by rfl) rfl rfl)))) ?_
                        refine Steps.cons (fun a w hS hI hp => ok_on rfl (((hp.get 3 (by rfl) rfl rfl)).elim fun v0 h0 => does_val (x_extract rfl h0.1 rfl) h0.2)) ?_
                        refine Steps.cons (fun a w hS hI hp => ok_on rfl (((hp.get 3 (by rfl) rfl rfl)).elim fun v0 h0 => does_val (x_extract rfl h0.1 rfl) rfl)) ?_
                        refine Steps.cons (fun a w hS hI hp => ok_on rfl (does_val (x_assign rfl rfl) ((hp.get 4 (by rfl) rfl rfl)))) ?_
                        refine Steps.cons (fun a w hS hI hp => ok_on rfl (does_val (x_assign rfl ((hp.get 5 (by rfl) rfl rfl))) rfl)) ?_
                        exact Steps.nil
                      clear hS
                      intro at11 w12 hS hI hp
                      have hBw12_w := hI.1
                      have hBw12_w3 := hI.2.1
                      have hBw12_w8 := hI.2.2
                      replace hS := ((hS.nil).cons (hS.get 1 rfl)).cons (hS.get 0 rfl)
                      obtain ⟨A13, C13, hv6, hl13, hc13⟩ := Kd.R_reads (show Kd.R (Kd.int .u8) 5 w12 w8.heap.size (fun _ => True) (sl _ 6) t10_1 from hp 6 (by decide))
                      have ho13 : Kd.R (Kd.int .u8) 5 w12 w8.heap.size (fun _ => True) (.slice A13 t10_1.length C13) t10_1 := hv6 ▸ (hp 6 (by decide))
                      have hv7 : sl _ 7 = .bool t10_2 := hp 7 (by decide)
                      have hBw12_w12 := Below.refl w12.heap.size w12
                      have hS := hS.cons hv6
                      have hS := hS.cons hv7
                      clear hp hI hv6 hv7
                      refine hK9 _ _ ?_
                      clear hK9 K9
                      refine wp_seq_k (fun K14 hK14 => ?_)
                      refine wp_seq_k (fun K15 hK15 => ?_)
                      refine reg_seq (N := 76) (bs := [(7, .bool t10_2), (6, .slice A13 t10_1.length C13), (5, .int .i64 (wrap64 (35 + t6))), (4, .bool false)]) (I := fun x => Below w.heap.size w x ∧ Below w3.heap.size w3 x ∧ Below w8.heap.size w8 x ∧ Below w12.heap.size w12 x) (ps := [IsV (.bool t10_2), IsV (.bool (!t10_2))]) (by kernel_rfl) ?_ ?_ rfl hS ⟨hBw12_w, hBw12_w3, hBw12_w8, hBw12_w12⟩ ?_ ?_
                      · exact fun x y hI hb => ⟨below_step hI.1 hb, below_step hI.2.1 hb, below_step hI.2.2.1 hb, below_step hI.2.2.2 hb⟩
                      · exact AllStay.cons (Stays.v _) (AllStay.cons (Stays.v _) (AllStay.nil))
                      · refine Steps.cons (fun a w hS hI hp => ok_on rfl (does_val (x_move rfl (hS.get 0 rfl)) rfl)) ?_
                        refine Steps.cons (fun a w hS hI hp => ok_on rfl (does_val (x_not rfl ((hp.get 0 (by rfl) rfl rfl))) rfl)) ?_
                        exact Steps.nil
                      clear hS
                      intro at16 w17 hS hI hp
                      have hBw17_w := hI.1
                      have hBw17_w3 := hI.2.1
                      have hBw17_w8 := hI.2.2.1
                      have hBw17_w12 := hI.2.2.2
                      replace hS := (((hS.nil).cons (hS.get 3 rfl)).cons (hS.get 2 rfl)).cons (hS.get 1 rfl)
                      have hv27 : sl _ 27 = .bool (!t10_2) := hp 1 (by decide)
                      have hBw17_w17 := Below.refl w17.heap.size w17
                      have hS := hS.cons hv27
                      clear hp hI hv27
                      refine hK15 _ _ ?_
                      clear hK15 K15
                      refine wp_cond_false ((hS.get 0 rfl).trans (bF (congrArg (!·) c1))) ?_
                      refine wp_skip ?_
                      refine hK14 _ _ ?_
                      clear hK14 K14
                      refine wp_seq_k (fun K18 hK18 => ?_)
                      refine reg_seq_tail 3 (N := 76) (bs := [(27, .bool (!t10_2)), (6, .slice A13 t10_1.length C13), (5, .int .i64 (wrap64 (35 + t6))), (4, .bool false)]) (I := fun x => Below w.heap.size w x ∧ Below w3.heap.size w3 x ∧ Below w8.heap.size w8 x ∧ Below w12.heap.size w12 x ∧ Below w17.heap.size w17 x) (ps := [IsV (.slice A13 t10_1.length C13), IsV (.int .i64 (wrap64 (35 + t6))), IsV (.int .i64 (wrap64 ((wrap64 (35 + t6)) - 34)))]) (by kernel_rfl) ?_ ?_ rfl hS ⟨hBw17_w, hBw17_w3, hBw17_w8, hBw17_w12, hBw17_w17⟩ ?_ ?_
                      · exact fun x y hI hb => ⟨below_step hI.1 hb, below_step hI.2.1 hb, below_step hI.2.2.1 hb, below_step hI.2.2.2.1 hb, below_step hI.2.2.2.2 hb⟩
                      · exact AllStay.cons (Stays.v _) (AllStay.cons (Stays.v _) (AllStay.cons (Stays.v _) (AllStay.nil)))
                      · refine Steps.cons (fun a w hS hI hp => ok_on rfl (does_val (x_move rfl (hS.get 1 rfl)) rfl)) ?_
                        refine Steps.cons (fun a w hS hI hp => ok_on rfl (does_val (x_move rfl (hS.get 2 rfl)) rfl)) ?_
                        refine Steps.cons (fun a w hS hI hp => ok_on rfl (does_val (x_bin rfl ((hp.get 1 (by rfl) rfl rfl)) (rfl) (b_sub _ _ _ _ _)) rfl)) ?_
                        exact Steps.nil
                      clear hS
                      intro at19 w20 hS hI hp
                      have hBw20_w := hI.1
                      have hBw20_w3 := hI.2.1
                      have hBw20_w8 := hI.2.2.1
                      have hBw20_w12 := hI.2.2.2.1
                      have hBw20_w17 := hI.2.2.2.2
                      have hv34 : sl _ 34 = .slice A13 t10_1.length C13 := hp 0 (by decide)
                      have hv36 : sl _ 36 = .int .i64 (wrap64 ((wrap64 (35 + t6)) - 34)) := hp 2 (by decide)
                      have hBw20_w20 := Below.refl w20.heap.size w20
                      have hS := hS.cons hv34
                      have hS := hS.cons hv36
                      clear hp hI hv34 hv36
                      show wpList _ _ _ [_, _] _ _
                      refine list_step rfl (does_zeros (ki := .i64) (W := w8) (.tmp 34) (.tmp 36) 29 3 5 1 rfl (by kernel_rfl) (by kernel_rfl) (by kernel_rfl) (by decide) _ t10_1 (wrap64 ((wrap64 (35 + t6)) - 34)) (hS.get 1 rfl) (hS.get 0 rfl) (Kd.R_below ho13 hBw20_w12) hBw20_w8 c2 c3) ?_
                      rintro vw21 w21 ⟨hb, hr⟩
                      have hBw21_w := below_step hBw8_w hb
                      have hBw21_w3 := below_step hBw8_w3 hb
                      have hBw21_w8 := hb
                      replace hS := ((((hS.nil).cons (hS.get 5 rfl)).cons (hS.get 4 rfl)).cons (hS.get 2 rfl)).cons (hS.get 0 rfl)
                      have hBw21_w21 := Below.refl w21.heap.size w21
                      obtain ⟨A22, C22, rfl, hl22, hc22⟩ := Kd.R_reads hr
                      have hr22 := hr
                      clear hr
                      refine hS.next (v := .slice A22 ((t10_1 ++ List.replicate (wrap64 ((wrap64 (35 + t6)) - 34) : Int).toNat 0 : List Int).length) C22) (d := 37) rfl (by decide) (by rfl) ?_
                      clear hS
                      intro at23 hS
                      refine list_step rfl (R := fun v w' => Below _ _ w' ∧ (IsV (.slice A22 ((t10_1 ++ List.replicate (wrap64 ((wrap64 (35 + t6)) - 34) : Int).toNat 0 : List Int).length) C22)) v w') (does_val (x_assign rfl (hS.get 0 rfl)) rfl) ?_
                      rintro vw24 w24 ⟨hb, he⟩
                      have hBw24_w := below_step hBw21_w hb
                      have hBw24_w3 := below_step hBw21_w3 hb
                      have hBw24_w8 := below_step hBw21_w8 hb
                      have hBw24_w21 := below_step hBw21_w21 hb
                      have hBw24_w24 := Below.refl w24.heap.size w24
                      obtain rfl : vw24 = .slice A22 ((t10_1 ++ List.replicate (wrap64 ((wrap64 (35 + t6)) - 34) : Int).toNat 0 : List Int).length) C22 := he
                      refine hS.next (v := .slice A22 ((t10_1 ++ List.replicate (wrap64 ((wrap64 (35 + t6)) - 34) : Int).toNat 0 : List Int).length) C22) (d := 6) rfl (by decide) (by rfl) ?_
                      clear hS
                      intro at25 hS
                      refine wpList_nil ?_
                      refine hK18 _ _ ?_
                      clear hK18 K18
                      refine wp_seq_k (fun K26 hK26 => ?_)
                      refine reg_seq_tail 3 (N := 76) (bs := [(6, .slice A22 ((t10_1 ++ List.replicate (wrap64 ((wrap64 (35 + t6)) - 34) : Int).toNat 0 : List Int).length) C22), (37, .slice A22 ((t10_1 ++ List.replicate (wrap64 ((wrap64 (35 + t6)) - 34) : Int).toNat 0 : List Int).length) C22), (36, .int .i64 (wrap64 ((wrap64 (35 + t6)) - 34))), (27, .bool (!t10_2)), (5, .int .i64 (wrap64 (35 + t6))), (4, .bool false)]) (I := fun x => Below w.heap.size w x ∧ Below w3.heap.size w3 x ∧ Below w8.heap.size w8 x ∧ Below w21.heap.size w21 x ∧ Below w24.heap.size w24 x) (ps := [IsV (.slice A22 ((t10_1 ++ List.replicate (wrap64 ((wrap64 (35 + t6)) - 34) : Int).toNat 0 : List Int).length) C22), IsR (Kd.int .u8) 5 w24.heap.size t27, IsR (Kd.int .u8) 5 w24.heap.size [0]]) (by kernel_rfl) ?_ ?_ rfl hS ⟨hBw24_w, hBw24_w3, hBw24_w8, hBw24_w21, hBw24_w24⟩ ?_ ?_
                      · exact fun x y hI hb => ⟨below_step hI.1 hb, below_step hI.2.1 hb, below_step hI.2.2.1 hb, below_step hI.2.2.2.1 hb, below_step hI.2.2.2.2 hb⟩
                      · exact AllStay.cons (Stays.v _) (AllStay.cons (Stays.r _ _ _ _) (AllStay.cons (Stays.r _ _ _ _) (AllStay.nil)))
                      · refine Steps.cons (fun a w hS hI hp => ok_on rfl (does_val (x_move rfl (hS.get 0 rfl)) rfl)) ?_
                        refine Steps.cons (fun a w hS hI hp => ok_on rfl (does_call (by kernel_rfl) (ar1 ((hp.get 0 (by rfl) rfl rfl))) ((carillonlaw00_Bytes.calls _ _ (t10_1 ++ List.replicate (wrap64 ((wrap64 (35 + t6)) - 34) : Int).toNat 0 : List Int) t27 _ (Kd.C_below hc22 hI.2.2.2.1) hl22 At27).mono fun _ _ h => h.elim fun v0 h => ⟨v0, h.1, h.2.2, Kd.R_lower h.2.1 hI.2.2.2.2.size⟩))) ?_
                        refine Steps.cons (fun a w hS hI hp => ok_on rfl (does_lit w24.heap.size 29 5 1 _ [(0, .int .u8 0)] [0] rfl (by kernel_rfl) (by rw [Array.toList_map]; exact (show [(0, a.eval (.const (.int .u8 0)))] = _ from (li_cons (rfl) rfl))) (by kernel_rfl) rfl (hI.2.2.2.2).size (Nat.le_of_ble_eq_true rfl))) ?_
                        exact Steps.nil
                      clear hS
                      intro at28 w29 hS hI hp
                      have hBw29_w := hI.1
                      have hBw29_w3 := hI.2.1
                      have hBw29_w8 := hI.2.2.1
                      have hBw29_w21 := hI.2.2.2.1
                      have hBw29_w24 := hI.2.2.2.2
                      replace hS := ((((hS.nil).cons (hS.get 5 rfl)).cons (hS.get 4 rfl)).cons (hS.get 3 rfl)).cons (hS.get 0 rfl)
                      obtain ⟨A30, C30, hv40, hl30, hc30⟩ := Kd.R_reads (show Kd.R (Kd.int .u8) 5 w29 w24.heap.size (fun _ => True) (sl _ 40) t27 from hp 1 (by decide))
                      have ho30 : Kd.R (Kd.int .u8) 5 w29 w24.heap.size (fun _ => True) (.slice A30 t27.length C30) t27 := hv40 ▸ (hp 1 (by decide))
                      obtain ⟨A31, C31, hv41, hl31, hc31⟩ := Kd.R_reads (show Kd.R (Kd.int .u8) 5 w29 w24.heap.size (fun _ => True) (sl _ 41) [0] from hp 2 (by decide))
                      have ho31 : Kd.R (Kd.int .u8) 5 w29 w24.heap.size (fun _ => True) (.slice A31 [0].length C31) [0] := hv41 ▸ (hp 2 (by decide))
                      have hBw29_w29 := Below.refl w29.heap.size w29
                      have hS := hS.cons hv40
                      have hS := hS.cons hv41
                      clear hp hI hv40 hv41
                      show wpList _ _ _ [_, _, _, _, _, _, _, _, _, _] _ _
                      refine list_step rfl (does_more (W := w24) (.tmp 40) (.tmp 41) 29 5 1 rfl (by kernel_rfl) (by kernel_rfl) (by decide) _ t27 [0] _ _ (hS.get 1 rfl) (hS.get 0 rfl) (Kd.R_below ho30 hBw29_w29) (Kd.C_below hc31 hBw29_w29) hBw29_w24 c4) ?_
                      rintro vw32 w32 ⟨hb, hr⟩
                      have hBw32_w := below_step hBw24_w hb
                      have hBw32_w3 := below_step hBw24_w3 hb
                      have hBw32_w8 := below_step hBw24_w8 hb
                      have hBw32_w21 := below_step hBw24_w21 hb
                      have hBw32_w24 := hb
                      replace hS := ((((hS.nil).cons (hS.get 5 rfl)).cons (hS.get 4 rfl)).cons (hS.get 3 rfl)).cons (hS.get 2 rfl)
                      have hBw32_w32 := Below.refl w32.heap.size w32
                      obtain ⟨A33, C33, rfl, hl33, hc33⟩ := Kd.R_reads hr
                      have hr33 := hr
                      clear hr
                      refine hS.next (v := .slice A33 ((t27 ++ [0] : List Int).length) C33) (d := 42) rfl (by decide) (by rfl) ?_
                      clear hS
                      intro at34 hS
                      refine list_step rfl (R := fun v w' => Below _ _ w' ∧ (IsV (.tuple #[.agg #[.int .i64 t36_1, .int .i64 t36_2, .int .i64 t36_3, .int .i64 t36_4, .int .u64 t36_5, .int .i64 t36_6, .int .i64 t36_7, .int .i64 t36_8, .int .i64 t36_9, .int .u64 t36_10, .int .i64 t36_11, .int .i64 t36_12, .int .i64 t36_13, .int .i64 t36_14, .int .i64 t36_15, .int .i64 t36_16, .int .i64 t36_17, .int .u64 t36_18, .int .i64 t36_19, .int .i64 t36_20, .int .i64 t36_21, .int .i64 t36_22, .int .i64 t36_23], .int .i64 t36_24, .int .i64 t36_25])) v w') (does_call (by kernel_rfl) (ar1 (hS.get 0 rfl)) ((header_Get.calls k _ _ (t27 ++ [0] : List Int) t36_1 t36_2 t36_3 t36_4 t36_5 t36_6 t36_7 t36_8 t36_9 t36_10 t36_11 t36_12 t36_13 t36_14 t36_15 t36_16 t36_17 t36_18 t36_19 t36_20 t36_21 t36_22 t36_23 t36_24 t36_25 _ (Kd.C_below hc33 hBw32_w32) hl33 At36).mono fun _ _ h => ⟨_, h.1, h.2, rfl⟩)) ?_
                      rintro vw35 w35 ⟨hb, he⟩
                      have hBw35_w := below_step hBw32_w hb
                      have hBw35_w3 := below_step hBw32_w3 hb
                      have hBw35_w8 := below_step hBw32_w8 hb
                      have hBw35_w21 := below_step hBw32_w21 hb
                      have hBw35_w24 := below_step hBw32_w24 hb
                      have hBw35_w32 := below_step hBw32_w32 hb
                      have hBw35_w35 := Below.refl w35.heap.size w35
                      obtain rfl : vw35 = .tuple #[.agg #[.int .i64 t36_1, .int .i64 t36_2, .int .i64 t36_3, .int .i64 t36_4, .int .u64 t36_5, .int .i64 t36_6, .int .i64 t36_7, .int .i64 t36_8, .int .i64 t36_9, .int .u64 t36_10, .int .i64 t36_11, .int .i64 t36_12, .int .i64 t36_13, .int .i64 t36_14, .int .i64 t36_15, .int .i64 t36_16, .int .i64 t36_17, .int .u64 t36_18, .int .i64 t36_19, .int .i64 t36_20, .int .i64 t36_21, .int .i64 t36_22, .int .i64 t36_23], .int .i64 t36_24, .int .i64 t36_25] := he
                      refine hS.next (v := .tuple #[.agg #[.int .i64 t36_1, .int .i64 t36_2, .int .i64 t36_3, .int .i64 t36_4, .int .u64 t36_5, .int .i64 t36_6, .int .i64 t36_7, .int .i64 t36_8, .int .i64 t36_9, .int .u64 t36_10, .int .i64 t36_11, .int .i64 t36_12, .int .i64 t36_13, .int .i64 t36_14, .int .i64 t36_15, .int .i64 t36_16, .int .i64 t36_17, .int .u64 t36_18, .int .i64 t36_19, .int .i64 t36_20, .int .i64 t36_21, .int .i64 t36_22, .int .i64 t36_23], .int .i64 t36_24, .int .i64 t36_25]) (d := 43) rfl (by decide) (by rfl) ?_
                      clear hS
                      intro at37 hS
                      refine list_step rfl (R := fun v w' => Below _ _ w' ∧ (IsV (.tuple #[.agg #[.int .i64 t36_1, .int .i64 t36_2, .int .i64 t36_3, .int .i64 t36_4, .int .u64 t36_5, .int .i64 t36_6, .int .i64 t36_7, .int .i64 t36_8, .int .i64 t36_9, .int .u64 t36_10, .int .i64 t36_11, .int .i64 t36_12, .int .i64 t36_13, .int .i64 t36_14, .int .i64 t36_15, .int .i64 t36_16, .int .i64 t36_17, .int .u64 t36_18, .int .i64 t36_19, .int .i64 t36_20, .int .i64 t36_21, .int .i64 t36_22, .int .i64 t36_23], .int .i64 t36_24, .int .i64 t36_25])) v w') (does_val (x_move rfl (hS.get 0 rfl)) rfl) ?_
                      rintro vw38 w38 ⟨hb, he⟩
                      have hBw38_w := below_step hBw35_w hb
                      have hBw38_w3 := below_step hBw35_w3 hb
                      have hBw38_w8 := below_step hBw35_w8 hb
                      have hBw38_w21 := below_step hBw35_w21 hb
                      have hBw38_w24 := below_step hBw35_w24 hb
                      have hBw38_w32 := below_step hBw35_w32 hb
                      have hBw38_w35 := below_step hBw35_w35 hb
                      have hBw38_w38 := Below.refl w38.heap.size w38
                      obtain rfl : vw38 = .tuple #[.agg #[.int .i64 t36_1, .int .i64 t36_2, .int .i64 t36_3, .int .i64 t36_4, .int .u64 t36_5, .int .i64 t36_6, .int .i64 t36_7, .int .i64 t36_8, .int .i64 t36_9, .int .u64 t36_10, .int .i64 t36_11, .int .i64 t36_12, .int .i64 t36_13, .int .i64 t36_14, .int .i64 t36_15, .int .i64 t36_16, .int .i64 t36_17, .int .u64 t36_18, .int .i64 t36_19, .int .i64 t36_20, .int .i64 t36_21, .int .i64 t36_22, .int .i64 t36_23], .int .i64 t36_24, .int .i64 t36_25] := he
                      refine hS.next (v := .tuple #[.agg #[.int .i64 t36_1, .int .i64 t36_2, .int .i64 t36_3, .int .i64 t36_4, .int .u64 t36_5, .int .i64 t36_6, .int .i64 t36_7, .int .i64 t36_8, .int .i64 t36_9, .int .u64 t36_10, .int .i64 t36_11, .int .i64 t36_12, .int .i64 t36_13, .int .i64 t36_14, .int .i64 t36_15, .int .i64 t36_16, .int .i64 t36_17, .int .u64 t36_18, .int .i64 t36_19, .int .i64 t36_20, .int .i64 t36_21, .int .i64 t36_22, .int .i64 t36_23], .int .i64 t36_24, .int .i64 t36_25]) (d := 38) rfl (by decide) (by rfl) ?_
                      clear hS
                      intro at39 hS
                      refine list_step rfl (R := fun v w' => Below _ _ w' ∧ (IsV (.agg #[.int .i64 t36_1, .int .i64 t36_2, .int .i64 t36_3, .int .i64 t36_4, .int .u64 t36_5, .int .i64 t36_6, .int .i64 t36_7, .int .i64 t36_8, .int .i64 t36_9, .int .u64 t36_10, .int .i64 t36_11, .int .i64 t36_12, .int .i64 t36_13, .int .i64 t36_14, .int .i64 t36_15, .int .i64 t36_16, .int .i64 t36_17, .int .u64 t36_18, .int .i64 t36_19, .int .i64 t36_20, .int .i64 t36_21, .int .i64 t36_22, .int .i64 t36_23])) v w') (does_val (x_extract rfl (hS.get 0 rfl) rfl) rfl) ?_
                      rintro vw40 w40 ⟨hb, he⟩
                      have hBw40_w := below_step hBw38_w hb
                      have hBw40_w3 := below_step hBw38_w3 hb
                      have hBw40_w8 := below_step hBw38_w8 hb
                      have hBw40_w21 := below_step hBw38_w21 hb
                      have hBw40_w24 := below_step hBw38_w24 hb
                      have hBw40_w32 := below_step hBw38_w32 hb
                      have hBw40_w38 := below_step hBw38_w38 hb
                      have hBw40_w40 := Below.refl w40.heap.size w40
                      obtain rfl : vw40 = .agg #[.int .i64 t36_1, .int .i64 t36_2, .int .i64 t36_3, .int .i64 t36_4, .int .u64 t36_5, .int .i64 t36_6, .int .i64 t36_7, .int .i64 t36_8, .int .i64 t36_9, .int .u64 t36_10, .int .i64 t36_11, .int .i64 t36_12, .int .i64 t36_13, .int .i64 t36_14, .int .i64 t36_15, .int .i64 t36_16, .int .i64 t36_17, .int .u64 t36_18, .int .i64 t36_19, .int .i64 t36_20, .int .i64 t36_21, .int .i64 t36_22, .int .i64 t36_23] := he
                      refine hS.next (v := .agg #[.int .i64 t36_1, .int .i64 t36_2, .int .i64 t36_3, .int .i64 t36_4, .int .u64 t36_5, .int .i64 t36_6, .int .i64 t36_7, .int .i64 t36_8, .int .i64 t36_9, .int .u64 t36_10, .int .i64 t36_11, .int .i64 t36_12, .int .i64 t36_13, .int .i64 t36_14, .int .i64 t36_15, .int .i64 t36_16, .int .i64 t36_17, .int .u64 t36_18, .int .i64 t36_19, .int .i64 t36_20, .int .i64 t36_21, .int .i64 t36_22, .int .i64 t36_23]) (d := 44) rfl (by decide) (by rfl) ?_
                      clear hS
                      intro at41 hS
                      refine list_step rfl (R := fun v w' => Below _ _ w' ∧ (IsV (.int .i64 t36_24)) v w') (does_val (x_extract rfl (hS.get 1 rfl) rfl) rfl) ?_
                      rintro vw42 w42 ⟨hb, he⟩
                      have hBw42_w := below_step hBw40_w hb
                      have hBw42_w3 := below_step hBw40_w3 hb
                      have hBw42_w8 := below_step hBw40_w8 hb
                      have hBw42_w21 := below_step hBw40_w21 hb
                      have hBw42_w24 := below_step hBw40_w24 hb
                      have hBw42_w32 := below_step hBw40_w32 hb
                      have hBw42_w40 := below_step hBw40_w40 hb
                      have hBw42_w42 := Below.refl w42.heap.size w42
                      obtain rfl : vw42 = .int .i64 t36_24 := he
                      refine hS.next (v := .int .i64 t36_24) (d := 45) rfl (by decide) (by rfl) ?_
                      clear hS
                      intro at43 hS
                      refine list_step rfl (R := fun v w' => Below _ _ w' ∧ (IsV (.int .i64 t36_25)) v w') (does_val (x_extract rfl (hS.get 2 rfl) rfl) rfl) ?_
                      rintro vw44 w44 ⟨hb, he⟩
                      have hBw44_w := below_step hBw42_w hb
                      have hBw44_w3 := below_step hBw42_w3 hb
                      have hBw44_w8 := below_step hBw42_w8 hb
                      have hBw44_w21 := below_step hBw42_w21 hb
                      have hBw44_w24 := below_step hBw42_w24 hb
                      have hBw44_w32 := below_step hBw42_w32 hb
                      have hBw44_w42 := below_step hBw42_w42 hb
                      have hBw44_w44 := Below.refl w44.heap.size w44
                      obtain rfl : vw44 = .int .i64 t36_25 := he
                      refine hS.next (v := .int .i64 t36_25) (d := 46) rfl (by decide) (by rfl) ?_
                      clear hS
                      intro at45 hS
                      refine list_step rfl (R := fun v w' => Below _ _ w' ∧ (IsB #[.int .i64 0, .int .i64 0, .int .i64 0, .int .i64 0, .int .u64 0, .int .i64 0, .int .i64 0, .int .i64 0, .int .i64 0, .int .u64 0, .int .i64 0, .int .i64 0, .int .i64 0, .int .i64 0, .int .i64 0, .int .i64 0, .int .i64 0, .int .u64 0, .int .i64 0, .int .i64 0, .int .i64 0, .int .i64 0, .int .i64 0] 28 w44.heap.size) v w') (does_var (x_alloc rfl (by kernel_rfl)) (hBw44_w44).size) ?_
                      rintro vw46 w46 ⟨hb, he⟩
                      have hBw46_w := below_step hBw44_w hb
                      have hBw46_w3 := below_step hBw44_w3 hb
                      have hBw46_w8 := below_step hBw44_w8 hb
                      have hBw46_w21 := below_step hBw44_w21 hb
                      have hBw46_w24 := below_step hBw44_w24 hb
                      have hBw46_w32 := below_step hBw44_w32 hb
                      have hBw46_w44 := below_step hBw44_w44 hb
                      have hBw46_w46 := Below.refl w46.heap.size w46
                      obtain ⟨g47, rfl, hgeg47, hbxg47⟩ := he
                      refine hS.next (v := .pointer (some ⟨g47, 0, none⟩)) (d := 8) rfl (by decide) (by rfl) ?_
                      clear hS
                      intro at48 hS
                      refine list_step rfl (does_storeAll (g := g47) (cs := #[.int .i64 t36_1, .int .i64 t36_2, .int .i64 t36_3, .int .i64 t36_4, .int .u64 t36_5, .int .i64 t36_6, .int .i64 t36_7, .int .i64 t36_8, .int .i64 t36_9, .int .u64 t36_10, .int .i64 t36_11, .int .i64 t36_12, .int .i64 t36_13, .int .i64 t36_14, .int .i64 t36_15, .int .i64 t36_16, .int .i64 t36_17, .int .u64 t36_18, .int .i64 t36_19, .int .i64 t36_20, .int .i64 t36_21, .int .i64 t36_22, .int .i64 t36_23]) rfl (hS.get 0 rfl) (hS.get 3 rfl) ((hBw46_w46.block g47 (blk_lt hbxg47)).trans hbxg47) (by kernel_rfl) (by kernel_rfl) (by kernel_rfl)) ?_
                      rintro vw49 w49 ⟨rfl, hbxw49, hT⟩
                      have hBw49_w := hT.below hBw46_w (Nat.le_trans (hBw44_w).size hgeg47) (hBw46_w).size
                      have hBw49_w3 := hT.below hBw46_w3 (Nat.le_trans (hBw44_w3).size hgeg47) (hBw46_w3).size
                      have hBw49_w8 := hT.below hBw46_w8 (Nat.le_trans (hBw44_w8).size hgeg47) (hBw46_w8).size
                      have hBw49_w21 := hT.below hBw46_w21 (Nat.le_trans (hBw44_w21).size hgeg47) (hBw46_w21).size
                      have hBw49_w24 := hT.below hBw46_w24 (Nat.le_trans (hBw44_w24).size hgeg47) (hBw46_w24).size
                      have hBw49_w32 := hT.below hBw46_w32 (Nat.le_trans (hBw44_w32).size hgeg47) (hBw46_w32).size
                      have hBw49_w44 := hT.below hBw46_w44 hgeg47 (hBw46_w44).size
                      have hBw49_w49 := Below.refl w49.heap.size w49
                      clear hT
                      refine list_step rfl (R := fun v w' => Below _ _ w' ∧ (IsV (.int .i64 t36_24)) v w') (does_val (x_assign rfl (hS.get 2 rfl)) rfl) ?_
                      rintro vw50 w50 ⟨hb, he⟩
                      have hBw50_w := below_step hBw49_w hb
                      have hBw50_w3 := below_step hBw49_w3 hb
                      have hBw50_w8 := below_step hBw49_w8 hb
                      have hBw50_w21 := below_step hBw49_w21 hb
                      have hBw50_w24 := below_step hBw49_w24 hb
                      have hBw50_w32 := below_step hBw49_w32 hb
                      have hBw50_w44 := below_step hBw49_w44 hb
                      have hBw50_w49 := below_step hBw49_w49 hb
                      have hBw50_w50 := Below.refl w50.heap.size w50
                      obtain rfl : vw50 = .int .i64 t36_24 := he
                      refine hS.next (v := .int .i64 t36_24) (d := 9) rfl (by decide) (by rfl) ?_
                      clear hS
                      intro at51 hS
                      refine list_step rfl (R := fun v w' => Below _ _ w' ∧ (IsV (.int .i64 t36_25)) v w') (does_val (x_assign rfl (hS.get 2 rfl)) rfl) ?_
                      rintro vw52 w52 ⟨hb, he⟩
                      have hBw52_w := below_step hBw50_w hb
                      have hBw52_w3 := below_step hBw50_w3 hb
                      have hBw52_w8 := below_step hBw50_w8 hb
                      have hBw52_w21 := below_step hBw50_w21 hb
                      have hBw52_w24 := below_step hBw50_w24 hb
                      have hBw52_w32 := below_step hBw50_w32 hb
                      have hBw52_w44 := below_step hBw50_w44 hb
                      have hBw52_w49 := below_step hBw50_w49 hb
                      have hBw52_w50 := below_step hBw50_w50 hb
                      have hBw52_w52 := Below.refl w52.heap.size w52
                      obtain rfl : vw52 = .int .i64 t36_25 := he
                      refine hS.next (v := .int .i64 t36_25) (d := 10) rfl (by decide) (by rfl) ?_
                      clear hS
                      intro at53 hS
                      refine wpList_nil ?_
                      refine hK26 _ _ ?_
                      clear hK26 K26
                      refine wp_seq_k (fun K54 hK54 => ?_)
                      refine reg_seq_tail 10 (N := 76) (bs := [(10, .int .i64 t36_25), (9, .int .i64 t36_24), (8, .pointer (some ⟨g47, 0, none⟩)), (46, .int .i64 t36_25), (45, .int .i64 t36_24), (44, .agg #[.int .i64 t36_1, .int .i64 t36_2, .int .i64 t36_3, .int .i64 t36_4, .int .u64 t36_5, .int .i64 t36_6, .int .i64 t36_7, .int .i64 t36_8, .int .i64 t36_9, .int .u64 t36_10, .int .i64 t36_11, .int .i64 t36_12, .int .i64 t36_13, .int .i64 t36_14, .int .i64 t36_15, .int .i64 t36_16, .int .i64 t36_17, .int .u64 t36_18, .int .i64 t36_19, .int .i64 t36_20, .int .i64 t36_21, .int .i64 t36_22, .int .i64 t36_23]), (38, .tuple #[.agg #[.int .i64 t36_1, .int .i64 t36_2, .int .i64 t36_3, .int .i64 t36_4, .int .u64 t36_5, .int .i64 t36_6, .int .i64 t36_7, .int .i64 t36_8, .int .i64 t36_9, .int .u64 t36_10, .int .i64 t36_11, .int .i64 t36_12, .int .i64 t36_13, .int .i64 t36_14, .int .i64 t36_15, .int .i64 t36_16, .int .i64 t36_17, .int .u64 t36_18, .int .i64 t36_19, .int .i64 t36_20, .int .i64 t36_21, .int .i64 t36_22, .int .i64 t36_23], .int .i64 t36_24, .int .i64 t36_25]), (43, .tuple #[.agg #[.int .i64 t36_1, .int .i64 t36_2, .int .i64 t36_3, .int .i64 t36_4, .int .u64 t36_5, .int .i64 t36_6, .int .i64 t36_7, .int .i64 t36_8, .int .i64 t36_9, .int .u64 t36_10, .int .i64 t36_11, .int .i64 t36_12, .int .i64 t36_13, .int .i64 t36_14, .int .i64 t36_15, .int .i64 t36_16, .int .i64 t36_17, .int .u64 t36_18, .int .i64 t36_19, .int .i64 t36_20, .int .i64 t36_21, .int .i64 t36_22, .int .i64 t36_23], .int .i64 t36_24, .int .i64 t36_25]), (42, .slice A33 ((t27 ++ [0] : List Int).length) C33), (6, .slice A22 ((t10_1 ++ List.replicate (wrap64 ((wrap64 (35 + t6)) - 34) : Int).toNat 0 : List Int).length) C22), (27, .bool (!t10_2)), (5, .int .i64 (wrap64 (35 + t6))), (4, .bool false)]) (I := fun x => Below w.heap.size w x ∧ Below w3.heap.size w3 x ∧ Below w8.heap.size w8 x ∧ Below w21.heap.size w21 x ∧ Below w24.heap.size w24 x ∧ Below w32.heap.size w32 x ∧ Below w44.heap.size w44 x ∧ Below w49.heap.size w49 x ∧ Below w52.heap.size w52 x) (ps := [IsV (.slice A22 ((t10_1 ++ List.replicate (wrap64 ((wrap64 (35 + t6)) - 34) : Int).toNat 0 : List Int).length) C22), IsV (.int .i64 (wrap64 (35 + t6))), IsV (.int .i64 (wrap64 ((wrap64 (35 + t6)) - 1))), IsV (.slice A22 (((t10_1 ++ List.replicate (wrap64 ((wrap64 (35 + t6)) - 34) : Int).toNat 0 : List Int).take (wrap64 ((wrap64 (35 + t6)) - 1) : Int).toNat).length) C22), IsV (.tuple #[.agg #[.int .i64 t55_1, .int .i64 t55_2, .int .i64 t55_3, .int .i64 t55_4, .int .u64 t55_5, .int .i64 t55_6, .int .i64 t55_7, .int .i64 t55_8, .int .i64 t55_9, .int .u64 t55_10, .int .i64 t55_11, .int .i64 t55_12, .int .i64 t55_13, .int .i64 t55_14, .int .i64 t55_15, .int .i64 t55_16, .int .i64 t55_17, .int .u64 t55_18, .int .i64 t55_19, .int .i64 t55_20, .int .i64 t55_21, .int .i64 t55_22, .int .i64 t55_23], .int .i64 t55_24, .int .i64 t55_25]), IsV (.tuple #[.agg #[.int .i64 t55_1, .int .i64 t55_2, .int .i64 t55_3, .int .i64 t55_4, .int .u64 t55_5, .int .i64 t55_6, .int .i64 t55_7, .int .i64 t55_8, .int .i64 t55_9, .int .u64 t55_10, .int .i64 t55_11, .int .i64 t55_12, .int .i64 t55_13, .int .i64 t55_14, .int .i64 t55_15, .int .i64 t55_16, .int .i64 t55_17, .int .u64 t55_18, .int .i64 t55_19, .int .i64 t55_20, .int .i64 t55_21, .int .i64 t55_22, .int .i64 t55_23], .int .i64 t55_24, .int .i64 t55_25]), IsV (.agg #[.int .i64 t55_1, .int .i64 t55_2, .int .i64 t55_3, .int .i64 t55_4, .int .u64 t55_5, .int .i64 t55_6, .int .i64 t55_7, .int .i64 t55_8, .int .i64 t55_9, .int .u64 t55_10, .int .i64 t55_11, .int .i64 t55_12, .int .i64 t55_13, .int .i64 t55_14, .int .i64 t55_15, .int .i64 t55_16, .int .i64 t55_17, .int .u64 t55_18, .int .i64 t55_19, .int .i64 t55_20, .int .i64 t55_21, .int .i64 t55_22, .int .i64 t55_23]), IsV (.int .i64 t55_24), IsV (.int .i64 t55_25), IsB #[.int .i64 0, .int .i64 0, .int .i64 0, .int .i64 0, .int .u64 0, .int .i64 0, .int .i64 0, .int .i64 0, .int .i64 0, .int .u64 0, .int .i64 0, .int .i64 0, .int .i64 0, .int .i64 0, .int .i64 0, .int .i64 0, .int .i64 0, .int .u64 0, .int .i64 0, .int .i64 0, .int .i64 0, .int .i64 0, .int .i64 0] 28 w52.heap.size]) (by kernel_rfl) ?_ ?_ rfl hS ⟨hBw52_w, hBw52_w3, hBw52_w8, hBw52_w21, hBw52_w24, hBw52_w32, hBw52_w44, hBw52_w49, hBw52_w52⟩ ?_ ?_
                      · exact fun x y hI hb => ⟨below_step hI.1 hb, below_step hI.2.1 hb, below_step hI.2.2.1 hb, below_step hI.2.2.2.1 hb, below_step hI.2.2.2.2.1 hb, below_step hI.2.2.2.2.2.1 hb, below_step hI.2.2.2.2.2.2.1 hb, below_step hI.2.2.2.2.2.2.2.1 hb, below_step hI.2.2.2.2.2.2.2.2 hb⟩
                      · exact AllStay.cons (Stays.v _) (AllStay.cons (Stays.v _) (AllStay.cons (Stays.v _) (AllStay.cons (Stays.v _) (AllStay.cons (Stays.v _) (AllStay.cons (Stays.v _) (AllStay.cons (Stays.v _) (AllStay.cons (Stays.v _) (AllStay.cons (Stays.v _) (AllStay.cons (Stays.b _ _ _) (AllStay.nil))))))))))
                      · refine Steps.cons (fun a w hS hI hp => ok_on rfl (does_val (x_move rfl (hS.get 9 rfl)) rfl)) ?_
                        refine Steps.cons (fun a w hS hI hp => ok_on rfl (does_val (x_move rfl (hS.get 11 rfl)) rfl)) ?_
                        refine Steps.cons (fun a w hS hI hp => ok_on rfl (does_val (x_bin rfl ((hp.get 1 (by rfl) rfl rfl)) (rfl) (b_sub _ _ _ _ _)) rfl)) ?_
                        refine Steps.cons (fun a w hS hI hp => ok_on rfl (does_val (x_cuthi rfl (e := 5) (xs := (t10_1 ++ List.replicate (wrap64 ((wrap64 (35 + t6)) - 34) : Int).toNat 0 : List Int)) (by kernel_rfl) (by kernel_rfl) ((hp.get 0 (by rfl) rfl rfl)) ((hp.get 2 (by rfl) rfl rfl)) c5 c6 hl22) rfl)) ?_
                        refine Steps.cons (fun a w hS hI hp => ok_on rfl (does_call (by kernel_rfl) (ar1 ((hp.get 3 (by rfl) rfl rfl))) ((header_Get.calls k _ _ ((t10_1 ++ List.replicate (wrap64 ((wrap64 (35 + t6)) - 34) : Int).toNat 0 : List Int).take (wrap64 ((wrap64 (35 + t6)) - 1) : Int).toNat) t55_1 t55_2 t55_3 t55_4 t55_5 t55_6 t55_7 t55_8 t55_9 t55_10 t55_11 t55_12 t55_13 t55_14 t55_15 t55_16 t55_17 t55_18 t55_19 t55_20 t55_21 t55_22 t55_23 t55_24 t55_25 _ (Kd.C_take (m := (wrap64 ((wrap64 (35 + t6)) - 1) : Int).toNat) (Kd.C_below hc22 hI.2.2.2.1) (by have := c6; omega)) (Nat.le_trans (List.length_take_le' _ _) hl22) At55).mono fun _ _ h => ⟨_, h.1, h.2, rfl⟩))) ?_
                        refine Steps.cons (fun a w hS hI hp => ok_on rfl (does_val (x_move rfl ((hp.get 4 (by rfl) rfl rfl))) rfl)) ?_
                        refine Steps.cons (fun a w hS hI hp => ok_on rfl (does_val (x_extract rfl ((hp.get 5 (by rfl) rfl rfl)) rfl) rfl)) ?_
                        refine Steps.cons (fun a w hS hI hp => ok_on rfl (does_val (x_extract rfl ((hp.get 5 (by rfl) rfl rfl)) rfl) rfl)) ?_
                        refine Steps.cons (fun a w hS hI hp => ok_on rfl (does_val (x_extract rfl ((hp.get 5 (by rfl) rfl rfl)) rfl) rfl)) ?_
                        refine Steps.cons (fun a w hS hI hp => ok_on rfl (does_var (x_alloc rfl (by kernel_rfl)) (hI.2.2.2.2.2.2.2.2).size)) ?_
                        exact Steps.nil
                      clear hS
                      intro at56 w57 hS hI hp
                      have hBw57_w := hI.1
                      have hBw57_w3 := hI.2.1
                      have hBw57_w8 := hI.2.2.1
                      have hBw57_w21 := hI.2.2.2.1
                      have hBw57_w24 := hI.2.2.2.2.1
                      have hBw57_w32 := hI.2.2.2.2.2.1
                      have hBw57_w44 := hI.2.2.2.2.2.2.1
                      have hBw57_w49 := hI.2.2.2.2.2.2.2.1
                      have hBw57_w52 := hI.2.2.2.2.2.2.2.2
                      replace hS := ((((hS.nil).cons (hS.get 12 rfl)).cons (hS.get 10 rfl)).cons (hS.get 9 rfl)).cons (hS.get 0 rfl)
                      have hv53 : sl _ 53 = .agg #[.int .i64 t55_1, .int .i64 t55_2, .int .i64 t55_3, .int .i64 t55_4, .int .u64 t55_5, .int .i64 t55_6, .int .i64 t55_7, .int .i64 t55_8, .int .i64 t55_9, .int .u64 t55_10, .int .i64 t55_11, .int .i64 t55_12, .int .i64 t55_13, .int .i64 t55_14, .int .i64 t55_15, .int .i64 t55_16, .int .i64 t55_17, .int .u64 t55_18, .int .i64 t55_19, .int .i64 t55_20, .int .i64 t55_21, .int .i64 t55_22, .int .i64 t55_23] := hp 6 (by decide)
                      have hv54 : sl _ 54 = .int .i64 t55_24 := hp 7 (by decide)
                      have hv55 : sl _ 55 = .int .i64 t55_25 := hp 8 (by decide)
                      obtain ⟨g58, hv11, hgeg58, hbxg58⟩ := (show IsB _ 28 _ (sl _ 11) _ from hp 9 (by decide))
                      have hBw57_w57 := Below.refl w57.heap.size w57
                      have hS := hS.cons hv53
                      have hS := hS.cons hv54
                      have hS := hS.cons hv55
                      have hS := hS.cons hv11
                      clear hp hI hv53 hv54 hv55 hv11
                      show wpList _ _ _ [_, _, _] _ _
                      refine list_step rfl (does_storeAll (g := g58) (cs := #[.int .i64 t55_1, .int .i64 t55_2, .int .i64 t55_3, .int .i64 t55_4, .int .u64 t55_5, .int .i64 t55_6, .int .i64 t55_7, .int .i64 t55_8, .int .i64 t55_9, .int .u64 t55_10, .int .i64 t55_11, .int .i64 t55_12, .int .i64 t55_13, .int .i64 t55_14, .int .i64 t55_15, .int .i64 t55_16, .int .i64 t55_17, .int .u64 t55_18, .int .i64 t55_19, .int .i64 t55_20, .int .i64 t55_21, .int .i64 t55_22, .int .i64 t55_23]) rfl (hS.get 0 rfl) (hS.get 3 rfl) ((hBw57_w57.block g58 (blk_lt hbxg58)).trans hbxg58) (by kernel_rfl) (by kernel_rfl) (by kernel_rfl)) ?_
                      rintro vw59 w59 ⟨rfl, hbxw59, hT⟩
                      have hBw59_w := hT.below hBw57_w (Nat.le_trans (hBw52_w).size hgeg58) (hBw57_w).size
                      have hBw59_w3 := hT.below hBw57_w3 (Nat.le_trans (hBw52_w3).size hgeg58) (hBw57_w3).size
                      have hBw59_w8 := hT.below hBw57_w8 (Nat.le_trans (hBw52_w8).size hgeg58) (hBw57_w8).size
                      have hBw59_w21 := hT.below hBw57_w21 (Nat.le_trans (hBw52_w21).size hgeg58) (hBw57_w21).size
                      have hBw59_w44 := hT.below hBw57_w44 (Nat.le_trans (hBw52_w44).size hgeg58) (hBw57_w44).size
                      have hBw59_w49 := hT.below hBw57_w49 (Nat.le_trans (hBw52_w49).size hgeg58) (hBw57_w49).size
                      have hBw59_w52 := hT.below hBw57_w52 hgeg58 (hBw57_w52).size
                      have hBw59_w59 := Below.refl w59.heap.size w59
                      clear hT
                      refine list_step rfl (R := fun v w' => Below _ _ w' ∧ (IsV (.int .i64 t55_24)) v w') (does_val (x_assign rfl (hS.get 2 rfl)) rfl) ?_
                      rintro vw60 w60 ⟨hb, he⟩
                      have hBw60_w := below_step hBw59_w hb
                      have hBw60_w3 := below_step hBw59_w3 hb
                      have hBw60_w8 := below_step hBw59_w8 hb
                      have hBw60_w21 := below_step hBw59_w21 hb
                      have hBw60_w44 := below_step hBw59_w44 hb
                      have hBw60_w49 := below_step hBw59_w49 hb
                      have hBw60_w52 := below_step hBw59_w52 hb
                      have hBw60_w59 := below_step hBw59_w59 hb
                      have hBw60_w60 := Below.refl w60.heap.size w60
                      obtain rfl : vw60 = .int .i64 t55_24 := he
                      refine hS.next (v := .int .i64 t55_24) (d := 12) rfl (by decide) (by rfl) ?_
                      clear hS
                      intro at61 hS
                      refine list_step rfl (R := fun v w' => Below _ _ w' ∧ (IsV (.int .i64 t55_25)) v w') (does_val (x_assign rfl (hS.get 2 rfl)) rfl) ?_
                      rintro vw62 w62 ⟨hb, he⟩
                      have hBw62_w := below_step hBw60_w hb
                      have hBw62_w3 := below_step hBw60_w3 hb
                      have hBw62_w8 := below_step hBw60_w8 hb
                      have hBw62_w21 := below_step hBw60_w21 hb
                      have hBw62_w44 := below_step hBw60_w44 hb
                      have hBw62_w49 := below_step hBw60_w49 hb
                      have hBw62_w52 := below_step hBw60_w52 hb
                      have hBw62_w59 := below_step hBw60_w59 hb
                      have hBw62_w60 := below_step hBw60_w60 hb
                      have hBw62_w62 := Below.refl w62.heap.size w62
                      obtain rfl : vw62 = .int .i64 t55_25 := he
                      refine hS.next (v := .int .i64 t55_25) (d := 13) rfl (by decide) (by rfl) ?_
                      clear hS
                      intro at63 hS
                      refine wpList_nil ?_
                      refine hK54 _ _ ?_
                      clear hK54 K54
                      refine wp_seq_k (fun K64 hK64 => ?_)
                      refine reg_seq_tail 8 (N := 76) (bs := [(13, .int .i64 t55_25), (12, .int .i64 t55_24), (11, .pointer (some ⟨g58, 0, none⟩)), (55, .int .i64 t55_25), (54, .int .i64 t55_24), (53, .agg #[.int .i64 t55_1, .int .i64 t55_2, .int .i64 t55_3, .int .i64 t55_4, .int .u64 t55_5, .int .i64 t55_6, .int .i64 t55_7, .int .i64 t55_8, .int .i64 t55_9, .int .u64 t55_10, .int .i64 t55_11, .int .i64 t55_12, .int .i64 t55_13, .int .i64 t55_14, .int .i64 t55_15, .int .i64 t55_16, .int .i64 t55_17, .int .u64 t55_18, .int .i64 t55_19, .int .i64 t55_20, .int .i64 t55_21, .int .i64 t55_22, .int .i64 t55_23]), (10, .int .i64 t36_25), (6, .slice A22 ((t10_1 ++ List.replicate (wrap64 ((wrap64 (35 + t6)) - 34) : Int).toNat 0 : List Int).length) C22), (27, .bool (!t10_2)), (4, .bool false)]) (I := fun x => Below w.heap.size w x ∧ Below w3.heap.size w3 x ∧ Below w8.heap.size w8 x ∧ Below w21.heap.size w21 x ∧ Below w44.heap.size w44 x ∧ Below w49.heap.size w49 x ∧ Below w52.heap.size w52 x ∧ Below w59.heap.size w59 x ∧ Below w62.heap.size w62 x) (ps := [IsV (.slice A22 ((t10_1 ++ List.replicate (wrap64 ((wrap64 (35 + t6)) - 34) : Int).toNat 0 : List Int).length) C22), IsV (.slice A22 (((t10_1 ++ List.replicate (wrap64 ((wrap64 (35 + t6)) - 34) : Int).toNat 0 : List Int).take (33 : Int).toNat).length) C22), IsV (.tuple #[.agg #[.int .i64 t65_1, .int .i64 t65_2, .int .i64 t65_3, .int .i64 t65_4, .int .u64 t65_5, .int .i64 t65_6, .int .i64 t65_7, .int .i64 t65_8, .int .i64 t65_9, .int .u64 t65_10, .int .i64 t65_11, .int .i64 t65_12, .int .i64 t65_13, .int .i64 t65_14, .int .i64 t65_15, .int .i64 t65_16, .int .i64 t65_17, .int .u64 t65_18, .int .i64 t65_19, .int .i64 t65_20, .int .i64 t65_21, .int .i64 t65_22, .int .i64 t65_23], .int .i64 t65_24, .int .i64 t65_25]), IsV (.tuple #[.agg #[.int .i64 t65_1, .int .i64 t65_2, .int .i64 t65_3, .int .i64 t65_4, .int .u64 t65_5, .int .i64 t65_6, .int .i64 t65_7, .int .i64 t65_8, .int .i64 t65_9, .int .u64 t65_10, .int .i64 t65_11, .int .i64 t65_12, .int .i64 t65_13, .int .i64 t65_14, .int .i64 t65_15, .int .i64 t65_16, .int .i64 t65_17, .int .u64 t65_18, .int .i64 t65_19, .int .i64 t65_20, .int .i64 t65_21, .int .i64 t65_22, .int .i64 t65_23], .int .i64 t65_24, .int .i64 t65_25]), IsV (.agg #[.int .i64 t65_1, .int .i64 t65_2, .int .i64 t65_3, .int .i64 t65_4, .int .u64 t65_5, .int .i64 t65_6, .int .i64 t65_7, .int .i64 t65_8, .int .i64 t65_9, .int .u64 t65_10, .int .i64 t65_11, .int .i64 t65_12, .int .i64 t65_13, .int .i64 t65_14, .int .i64 t65_15, .int .i64 t65_16, .int .i64 t65_17, .int .u64 t65_18, .int .i64 t65_19, .int .i64 t65_20, .int .i64 t65_21, .int .i64 t65_22, .int .i64 t65_23]), IsV (.int .i64 t65_24), IsV (.int .i64 t65_25), IsB #[.int .i64 0, .int .i64 0, .int .i64 0, .int .i64 0, .int .u64 0, .int .i64 0, .int .i64 0, .int .i64 0, .int .i64 0, .int .u64 0, .int .i64 0, .int .i64 0, .int .i64 0, .int .i64 0, .int .i64 0, .int .i64 0, .int .i64 0, .int .u64 0, .int .i64 0, .int .i64 0, .int .i64 0, .int .i64 0, .int .i64 0] 28 w62.heap.size]) (by kernel_rfl) ?_ ?_ rfl hS ⟨hBw62_w, hBw62_w3, hBw62_w8, hBw62_w21, hBw62_w44, hBw62_w49, hBw62_w52, hBw62_w59, hBw62_w62⟩ ?_ ?_
                      · exact fun x y hI hb => ⟨below_step hI.1 hb, below_step hI.2.1 hb, below_step hI.2.2.1 hb, below_step hI.2.2.2.1 hb, below_step hI.2.2.2.2.1 hb, below_step hI.2.2.2.2.2.1 hb, below_step hI.2.2.2.2.2.2.1 hb, below_step hI.2.2.2.2.2.2.2.1 hb, below_step hI.2.2.2.2.2.2.2.2 hb⟩
                      · exact AllStay.cons (Stays.v _) (AllStay.cons (Stays.v _) (AllStay.cons (Stays.v _) (AllStay.cons (Stays.v _) (AllStay.cons (Stays.v _) (AllStay.cons (Stays.v _) (AllStay.cons (Stays.v _) (AllStay.cons (Stays.b _ _ _) (AllStay.nil))))))))
                      · refine Steps.cons (fun a w hS hI hp => ok_on rfl (does_val (x_move rfl (hS.get 7 rfl)) rfl)) ?_
                        refine Steps.cons (fun a w hS hI hp => ok_on rfl (does_val (x_cuthi rfl (e := 5) (xs := (t10_1 ++ List.replicate (wrap64 ((wrap64 (35 + t6)) - 34) : Int).toNat 0 : List Int)) (by kernel_rfl) (by kernel_rfl) ((hp.get 0 (by rfl) rfl rfl)) (rfl) (by decide) c7 hl22) rfl)) ?_
                        refine Steps.cons (fun a w hS hI hp => ok_on rfl (does_call (by kernel_rfl) (ar1 ((hp.get 1 (by rfl) rfl rfl))) ((header_Get.calls k _ _ ((t10_1 ++ List.replicate (wrap64 ((wrap64 (35 + t6)) - 34) : Int).toNat 0 : List Int).take (33 : Int).toNat) t65_1 t65_2 t65_3 t65_4 t65_5 t65_6 t65_7 t65_8 t65_9 t65_10 t65_11 t65_12 t65_13 t65_14 t65_15 t65_16 t65_17 t65_18 t65_19 t65_20 t65_21 t65_22 t65_23 t65_24 t65_25 _ (Kd.C_take (m := (33 : Int).toNat) (Kd.C_below hc22 hI.2.2.2.1) (by have := c7; omega)) (Nat.le_trans (List.length_take_le' _ _) hl22) At65).mono fun _ _ h => ⟨_, h.1, h.2, rfl⟩))) ?_
                        refine Steps.cons (fun a w hS hI hp => ok_on rfl (does_val (x_move rfl ((hp.get 2 (by rfl) rfl rfl))) rfl)) ?_
                        refine Steps.cons (fun a w hS hI hp => ok_on rfl (does_val (x_extract rfl ((hp.get 3 (by rfl) rfl rfl)) rfl) rfl)) ?_
                        refine Steps.cons (fun a w hS hI hp => ok_on rfl (does_val (x_extract rfl ((hp.get 3 (by rfl) rfl rfl)) rfl) rfl)) ?_
                        refine Steps.cons (fun a w hS hI hp => ok_on rfl (does_val (x_extract rfl ((hp.get 3 (by rfl) rfl rfl)) rfl) rfl)) ?_
                        refine Steps.cons (fun a w hS hI hp => ok_on rfl (does_var (x_alloc rfl (by kernel_rfl)) (hI.2.2.2.2.2.2.2.2).size)) ?_
                        exact Steps.nil
                      clear hS
                      intro at66 w67 hS hI hp
                      have hBw67_w := hI.1
                      have hBw67_w3 := hI.2.1
                      have hBw67_w8 := hI.2.2.1
                      have hBw67_w21 := hI.2.2.2.1
                      have hBw67_w44 := hI.2.2.2.2.1
                      have hBw67_w49 := hI.2.2.2.2.2.1
                      have hBw67_w52 := hI.2.2.2.2.2.2.1
                      have hBw67_w59 := hI.2.2.2.2.2.2.2.1
                      have hBw67_w62 := hI.2.2.2.2.2.2.2.2
                      replace hS := ((((hS.nil).cons (hS.get 9 rfl)).cons (hS.get 8 rfl)).cons (hS.get 6 rfl)).cons (hS.get 0 rfl)
                      have hv60 : sl _ 60 = .agg #[.int .i64 t65_1, .int .i64 t65_2, .int .i64 t65_3, .int .i64 t65_4, .int .u64 t65_5, .int .i64 t65_6, .int .i64 t65_7, .int .i64 t65_8, .int .i64 t65_9, .int .u64 t65_10, .int .i64 t65_11, .int .i64 t65_12, .int .i64 t65_13, .int .i64 t65_14, .int .i64 t65_15, .int .i64 t65_16, .int .i64 t65_17, .int .u64 t65_18, .int .i64 t65_19, .int .i64 t65_20, .int .i64 t65_21, .int .i64 t65_22, .int .i64 t65_23] := hp 4 (by decide)
                      have hv61 : sl _ 61 = .int .i64 t65_24 := hp 5 (by decide)
                      have hv62 : sl _ 62 = .int .i64 t65_25 := hp 6 (by decide)
                      obtain ⟨g68, hv14, hgeg68, hbxg68⟩ := (show IsB _ 28 _ (sl _ 14) _ from hp 7 (by decide))
                      have hBw67_w67 := Below.refl w67.heap.size w67
                      have hS := hS.cons hv60
                      have hS := hS.cons hv61
                      have hS := hS.cons hv62
                      have hS := hS.cons hv14
                      clear hp hI hv60 hv61 hv62 hv14
                      show wpList _ _ _ [_, _, _] _ _
                      refine list_step rfl (does_storeAll (g := g68) (cs := #[.int .i64 t65_1, .int .i64 t65_2, .int .i64 t65_3, .int .i64 t65_4, .int .u64 t65_5, .int .i64 t65_6, .int .i64 t65_7, .int .i64 t65_8, .int .i64 t65_9, .int .u64 t65_10, .int .i64 t65_11, .int .i64 t65_12, .int .i64 t65_13, .int .i64 t65_14, .int .i64 t65_15, .int .i64 t65_16, .int .i64 t65_17, .int .u64 t65_18, .int .i64 t65_19, .int .i64 t65_20, .int .i64 t65_21, .int .i64 t65_22, .int .i64 t65_23]) rfl (hS.get 0 rfl) (hS.get 3 rfl) ((hBw67_w67.block g68 (blk_lt hbxg68)).trans hbxg68) (by kernel_rfl) (by kernel_rfl) (by kernel_rfl)) ?_
                      rintro vw69 w69 ⟨rfl, hbxw69, hT⟩
                      have hBw69_w := hT.below hBw67_w (Nat.le_trans (hBw62_w).size hgeg68) (hBw67_w).size
                      have hBw69_w3 := hT.below hBw67_w3 (Nat.le_trans (hBw62_w3).size hgeg68) (hBw67_w3).size
                      have hBw69_w44 := hT.below hBw67_w44 (Nat.le_trans (hBw62_w44).size hgeg68) (hBw67_w44).size
                      have hBw69_w49 := hT.below hBw67_w49 (Nat.le_trans (hBw62_w49).size hgeg68) (hBw67_w49).size
                      have hBw69_w52 := hT.below hBw67_w52 (Nat.le_trans (hBw62_w52).size hgeg68) (hBw67_w52).size
                      have hBw69_w59 := hT.below hBw67_w59 (Nat.le_trans (hBw62_w59).size hgeg68) (hBw67_w59).size
                      have hBw69_w62 := hT.below hBw67_w62 hgeg68 (hBw67_w62).size
                      have hBw69_w69 := Below.refl w69.heap.size w69
                      clear hT
                      refine list_step rfl (R := fun v w' => Below _ _ w' ∧ (IsV (.int .i64 t65_24)) v w') (does_val (x_assign rfl (hS.get 2 rfl)) rfl) ?_
                      rintro vw70 w70 ⟨hb, he⟩
                      have hBw70_w := below_step hBw69_w hb
                      have hBw70_w3 := below_step hBw69_w3 hb
                      have hBw70_w44 := below_step hBw69_w44 hb
                      have hBw70_w49 := below_step hBw69_w49 hb
                      have hBw70_w52 := below_step hBw69_w52 hb
                      have hBw70_w59 := below_step hBw69_w59 hb
                      have hBw70_w62 := below_step hBw69_w62 hb
                      have hBw70_w69 := below_step hBw69_w69 hb
                      have hBw70_w70 := Below.refl w70.heap.size w70
                      obtain rfl : vw70 = .int .i64 t65_24 := he
                      refine hS.next (v := .int .i64 t65_24) (d := 15) rfl (by decide) (by rfl) ?_
                      clear hS
                      intro at71 hS
                      refine list_step rfl (R := fun v w' => Below _ _ w' ∧ (IsV (.int .i64 t65_25)) v w') (does_val (x_assign rfl (hS.get 2 rfl)) rfl) ?_
                      rintro vw72 w72 ⟨hb, he⟩
                      have hBw72_w := below_step hBw70_w hb
                      have hBw72_w3 := below_step hBw70_w3 hb
                      have hBw72_w44 := below_step hBw70_w44 hb
                      have hBw72_w49 := below_step hBw70_w49 hb
                      have hBw72_w52 := below_step hBw70_w52 hb
                      have hBw72_w59 := below_step hBw70_w59 hb
                      have hBw72_w62 := below_step hBw70_w62 hb
                      have hBw72_w69 := below_step hBw70_w69 hb
                      have hBw72_w70 := below_step hBw70_w70 hb
                      have hBw72_w72 := Below.refl w72.heap.size w72
                      obtain rfl : vw72 = .int .i64 t65_25 := he
                      refine hS.next (v := .int .i64 t65_25) (d := 16) rfl (by decide) (by rfl) ?_
                      clear hS
                      intro at73 hS
                      refine wpList_nil ?_
                      refine hK64 _ _ ?_
                      clear hK64 K64
                      refine wp_seq_k (fun K74 hK74 => ?_)
                      replace hS := (((((((((hS.nil).cons (hS.get 8 rfl)).cons (hS.get 7 rfl)).cons (hS.get 6 rfl)).cons (hS.get 5 rfl)).cons (hS.get 4 rfl)).cons (hS.get 3 rfl)).cons (hS.get 2 rfl)).cons (hS.get 1 rfl)).cons (hS.get 0 rfl)
                      refine reg_seq (N := 76) (bs := [(16, .int .i64 t65_25), (15, .int .i64 t65_24), (14, .pointer (some ⟨g68, 0, none⟩)), (62, .int .i64 t65_25), (61, .int .i64 t65_24), (60, .agg #[.int .i64 t65_1, .int .i64 t65_2, .int .i64 t65_3, .int .i64 t65_4, .int .u64 t65_5, .int .i64 t65_6, .int .i64 t65_7, .int .i64 t65_8, .int .i64 t65_9, .int .u64 t65_10, .int .i64 t65_11, .int .i64 t65_12, .int .i64 t65_13, .int .i64 t65_14, .int .i64 t65_15, .int .i64 t65_16, .int .i64 t65_17, .int .u64 t65_18, .int .i64 t65_19, .int .i64 t65_20, .int .i64 t65_21, .int .i64 t65_22, .int .i64 t65_23]), (13, .int .i64 t55_25), (10, .int .i64 t36_25), (27, .bool (!t10_2))]) (I := fun x => Below w.heap.size w x ∧ Below w3.heap.size w3 x ∧ Below w44.heap.size w44 x ∧ Below w49.heap.size w49 x ∧ Below w52.heap.size w52 x ∧ Below w59.heap.size w59 x ∧ Below w62.heap.size w62 x ∧ Below w69.heap.size w69 x ∧ Below w72.heap.size w72 x) (ps := [IsV (.int .i64 t36_25), IsV (.bool (decide (t36_25 = 3))), IsV (.bool (decide (t36_25 = 3))), IsV (.int .i64 t55_25), IsV (.bool (decide (t55_25 = 2))), IsV (.bool (decide (t55_25 = 2))), IsV (.bool (decide (t55_25 = 2))), IsV (.int .i64 t65_25), IsV (.bool (decide (t65_25 = 2))), IsV (.bool (decide (t65_25 = 2))), IsV (.bool (decide (t65_25 = 2))), IsV (.bool t75), IsV (.bool t75), IsV (.bool t75)]) (by kernel_rfl) ?_ ?_ rfl hS ⟨hBw72_w, hBw72_w3, hBw72_w44, hBw72_w49, hBw72_w52, hBw72_w59, hBw72_w62, hBw72_w69, hBw72_w72⟩ ?_ ?_
                      · exact fun x y hI hb => ⟨below_step hI.1 hb, below_step hI.2.1 hb, below_step hI.2.2.1 hb, below_step hI.2.2.2.1 hb, below_step hI.2.2.2.2.1 hb, below_step hI.2.2.2.2.2.1 hb, below_step hI.2.2.2.2.2.2.1 hb, below_step hI.2.2.2.2.2.2.2.1 hb, below_step hI.2.2.2.2.2.2.2.2 hb⟩
                      · exact AllStay.cons (Stays.v _) (AllStay.cons (Stays.v _) (AllStay.cons (Stays.v _) (AllStay.cons (Stays.v _) (AllStay.cons (Stays.v _) (AllStay.cons (Stays.v _) (AllStay.cons (Stays.v _) (AllStay.cons (Stays.v _) (AllStay.cons (Stays.v _) (AllStay.cons (Stays.v _) (AllStay.cons (Stays.v _) (AllStay.cons (Stays.v _) (AllStay.cons (Stays.v _) (AllStay.cons (Stays.v _) (AllStay.nil))))))))))))))
                      · refine Steps.cons (fun a w hS hI hp => ok_on rfl (does_val (x_move rfl (hS.get 7 rfl)) rfl)) ?_
                        refine Steps.cons (fun a w hS hI hp => ok_on rfl (does_val (x_bin rfl ((hp.get 0 (by rfl) rfl rfl)) (rfl) (b_eql _ _ _ _ _ _)) rfl)) ?_
                        refine Steps.cons (fun a w hS hI hp => ok_on rfl (does_val (x_move rfl ((hp.get 1 (by rfl) rfl rfl))) rfl)) ?_
                        refine Steps.cons (fun a w hS hI hp => ok_if (d := 65) rfl rfl (by rw [hS.size]; decide) (((hp.get 2 (by rfl) rfl rfl)).trans (bT (decide_eq_true c8))) (does_val (x_move rfl (hS.get 6 rfl)) rfl)) ?_
                        refine Steps.cons (fun a w hS hI hp => ok_if (d := 65) rfl rfl (by rw [hS.size]; decide) (((hp.get 2 (by rfl) rfl rfl)).trans (bT (decide_eq_true c8))) (does_val (x_bin rfl ((hp.get 3 (by rfl) rfl rfl)) (rfl) (b_eql _ _ _ _ _ _)) rfl)) ?_
                        refine Steps.cons (fun a w hS hI hp => ok_on rfl (does_val (x_pickT rfl (((hp.get 2 (by rfl) rfl rfl)).trans (bT (decide_eq_true c8))) ((hp.get 4 (by rfl) rfl rfl))) rfl)) ?_
                        refine Steps.cons (fun a w hS hI hp => ok_on rfl (does_val (x_move rfl ((hp.get 5 (by rfl) rfl rfl))) rfl)) ?_
                        refine Steps.cons (fun a w hS hI hp => ok_if (d := 69) rfl rfl (by rw [hS.size]; decide) (((hp.get 6 (by rfl) rfl rfl)).trans (bT (decide_eq_true c9))) (does_val (x_move rfl (hS.get 0 rfl)) rfl)) ?_
                        refine Steps.cons (fun a w hS hI hp => ok_if (d := 69) rfl rfl (by rw [hS.size]; decide) (((hp.get 6 (by rfl) rfl rfl)).trans (bT (decide_eq_true c9))) (does_val (x_bin rfl ((hp.get 7 (by rfl) rfl rfl)) (rfl) (b_eql _ _ _ _ _ _)) rfl)) ?_
                        refine Steps.cons (fun a w hS hI hp => ok_on rfl (does_val (x_pickT rfl (((hp.get 6 (by rfl) rfl rfl)).trans (bT (decide_eq_true c9))) ((hp.get 8 (by rfl) rfl rfl))) rfl)) ?_
                        refine Steps.cons (fun a w hS hI hp => ok_on rfl (does_val (x_move rfl ((hp.get 9 (by rfl) rfl rfl))) rfl)) ?_
                        refine Steps.cons (fun a w hS hI hp => ok_if (d := 73) rfl rfl (by rw [hS.size]; decide) (((hp.get 10 (by rfl) rfl rfl)).trans (bT (decide_eq_true c10))) (does_call (by kernel_rfl) rfl ((carillonlaw06_awake.calls k  t75 _  At75).mono fun _ _ h => ⟨_, h.1, h.2, rfl⟩))) ?_
                        refine Steps.cons (fun a w hS hI hp => ok_on rfl (does_val (x_pickT rfl (((hp.get 10 (by rfl) rfl rfl)).trans (bT (decide_eq_true c10))) ((hp.get 11 (by rfl) rfl rfl))) rfl)) ?_
                        refine Steps.cons (fun a w hS hI hp => ok_on rfl (does_val (x_assign rfl ((hp.get 12 (by rfl) rfl rfl))) rfl)) ?_
                        exact Steps.nil
                      clear hS
                      intro at76 w77 hS hI hp
                      have hBw77_w := hI.1
                      have hBw77_w3 := hI.2.1
                      have hBw77_w44 := hI.2.2.1
                      have hBw77_w49 := hI.2.2.2.1
                      have hBw77_w52 := hI.2.2.2.2.1
                      have hBw77_w59 := hI.2.2.2.2.2.1
                      have hBw77_w62 := hI.2.2.2.2.2.2.1
                      have hBw77_w69 := hI.2.2.2.2.2.2.2.1
                      have hBw77_w72 := hI.2.2.2.2.2.2.2.2
                      replace hS := (hS.nil).cons (hS.get 8 rfl)
                      have hv4 : sl _ 4 = .bool t75 := hp 13 (by decide)
                      have hBw77_w77 := Below.refl w77.heap.size w77
                      have hS := hS.cons hv4
                      clear hp hI hv4
                      refine hK74 _ _ ?_
                      clear hK74 K74
                      refine wp_ret ?_
                      (try simp only [Exit.then, Exit.inBlock])
                      exact bodyPost_ret (v := .bool true) (by rw [results_tmp rfl]; exact congrArg (Result.ok · _) ((hS.get 0 rfl).trans (congrArg Value.bool hret))) hS.nodef ⟨rfl, hBw77_w⟩
                    · rw [if_neg c10] at H
                      exact absurd H (by simp)
                  · rw [if_neg c9] at H
                    exact absurd H (by simp)
                · rw [if_neg c8] at H
                  exact absurd H (by simp)
              · rw [if_neg c7] at H
                exact absurd H (by simp)
            · rw [if_neg c6] at H
              exact absurd H (by simp)
          · rw [if_neg c5] at H
            exact absurd H (by simp)
        · rw [if_neg c4] at H
          exact absurd H (by simp)
      · rw [if_neg c3] at H
        exact absurd H (by simp)
    · rw [if_neg c2] at H
      exact absurd H (by simp)
  · rw [if_neg c1] at H
    by_cases c2 : (t10_1.length : Int) = 0
    · rw [if_pos c2] at H
      obtain ⟨t19, At19, H⟩ := Option.bind_eq_some_iff.mp H
      have hret := Option.some.inj H
      clear H
      refine calls_of_wp (fn := Try.f8) (by kernel_rfl) rfl ?_
      have hS := St.enter #[.agg #[.int .i64 a0_0, .int .i64 a0_1, .int .i64 a0_2, .int .i64 a0_3, .int .u64 a0_4, .int .i64 a0_5, .int .i64 a0_6, .int .i64 a0_7, .int .i64 a0_8, .int .u64 a0_9, .int .i64 a0_10, .int .i64 a0_11, .int .i64 a0_12, .int .i64 a0_13, .int .i64 a0_14, .int .i64 a0_15, .int .i64 a0_16, .int .u64 a0_17, .int .i64 a0_18, .int .i64 a0_19, .int .i64 a0_20, .int .i64 a0_21, .int .i64 a0_22], .int .i64 a1] 76 (by simp) [(0, .agg #[.int .i64 a0_0, .int .i64 a0_1, .int .i64 a0_2, .int .i64 a0_3, .int .u64 a0_4, .int .i64 a0_5, .int .i64 a0_6, .int .i64 a0_7, .int .i64 a0_8, .int .u64 a0_9, .int .i64 a0_10, .int .i64 a0_11, .int .i64 a0_12, .int .i64 a0_13, .int .i64 a0_14, .int .i64 a0_15, .int .i64 a0_16, .int .u64 a0_17, .int .i64 a0_18, .int .i64 a0_19, .int .i64 a0_20, .int .i64 a0_21, .int .i64 a0_22]), (1, .int .i64 a1)] (by simp)
      have HB0 := Below.refl w.heap.size w
      refine wp_seq_k (fun K1 hK1 => ?_)
      refine reg_seq (N := 76) (bs := [(0, .agg #[.int .i64 a0_0, .int .i64 a0_1, .int .i64 a0_2, .int .i64 a0_3, .int .u64 a0_4, .int .i64 a0_5, .int .i64 a0_6, .int .i64 a0_7, .int .i64 a0_8, .int .u64 a0_9, .int .i64 a0_10, .int .i64 a0_11, .int .i64 a0_12, .int .i64 a0_13, .int .i64 a0_14, .int .i64 a0_15, .int .i64 a0_16, .int .u64 a0_17, .int .i64 a0_18, .int .i64 a0_19, .int .i64 a0_20, .int .i64 a0_21, .int .i64 a0_22]), (1, .int .i64 a1)]) (I := fun x => Below w.heap.size w x) (ps := [IsB #[.int .i64 a0_0, .int .i64 a0_1, .int .i64 a0_2, .int .i64 a0_3, .int .u64 a0_4, .int .i64 a0_5, .int .i64 a0_6, .int .i64 a0_7, .int .i64 a0_8, .int .u64 a0_9, .int .i64 a0_10, .int .i64 a0_11, .int .i64 a0_12, .int .i64 a0_13, .int .i64 a0_14, .int .i64 a0_15, .int .i64 a0_16, .int .u64 a0_17, .int .i64 a0_18, .int .i64 a0_19, .int .i64 a0_20, .int .i64 a0_21, .int .i64 a0_22] 28 w.heap.size, IsV (.bool false)]) (by kernel_rfl) ?_ ?_ rfl hS HB0 ?_ ?_
      · exact fun x y hI hb => below_step hI hb
      · exact AllStay.cons (Stays.b _ _ _) (AllStay.cons (Stays.v _) (AllStay.nil))
      · refine Steps.cons (fun a w hS hI hp => ok_on rfl (does_var (x_box rfl (congrArg Value.cells (hS.get 0 rfl))) (hI).size)) ?_
        refine Steps.cons (fun a w hS hI hp => ok_on rfl (does_val (x_assign rfl (rfl)) rfl)) ?_
        exact Steps.nil
      clear hS
      intro at2 w3 hS hI hp
      have hBw3_w := hI
      replace hS := (hS.nil).cons (hS.get 1 rfl)
      obtain ⟨g4, hv2, hgeg4, hbxg4⟩ := (show IsB _ 28 _ (sl _ 2) _ from hp 0 (by decide))
      have hv4 : sl _ 4 = .bool false := hp 1 (by decide)
      have hBw3_w3 := Below.refl w3.heap.size w3
      have hS := hS.cons hv2
      have hS := hS.cons hv4
      clear hp hI hv2 hv4
      refine hK1 _ _ ?_
      clear hK1 K1
      refine wp_seq_k (fun K5 hK5 => ?_)
      refine reg_seq (N := 76) (bs := [(4, .bool false), (2, .pointer (some ⟨g4, 0, none⟩)), (1, .int .i64 a1)]) (I := fun x => Below w.heap.size w x ∧ Below w3.heap.size w3 x) (ps := [IsV (.int .i64 a1), IsV (.int .i64 t6), IsV (.int .i64 (wrap64 (35 + t6))), IsV (.int .i64 (wrap64 (35 + t6)))]) (by kernel_rfl) ?_ ?_ rfl hS ⟨hBw3_w, hBw3_w3⟩ ?_ ?_
      · exact fun x y hI hb => ⟨below_step hI.1 hb, below_step hI.2 hb⟩
      · exact AllStay.cons (Stays.v _) (AllStay.cons (Stays.v _) (AllStay.cons (Stays.v _) (AllStay.cons (Stays.v _) (AllStay.nil))))
      · refine Steps.cons (fun a w hS hI hp => ok_on rfl (does_val (x_move rfl (hS.get 2 rfl)) rfl)) ?_
        refine Steps.cons (fun a w hS hI hp => ok_on rfl (does_call (by kernel_rfl) (ar2 ((hp.get 0 (by rfl) rfl rfl)) (rfl)) ((carillonlaw00_Place.calls a1 365 t6 _  At6).mono fun _ _ h => ⟨_, h.1, h.2.below, rfl⟩))) ?_
        refine Steps.cons (fun a w hS hI hp => ok_on rfl (does_val (x_bin rfl (rfl) ((hp.get 1 (by rfl) rfl rfl)) (b_add _ _ _ _ _)) rfl)) ?_
        refine Steps.cons (fun a w hS hI hp => ok_on rfl (does_val (x_assign rfl ((hp.get 2 (by rfl) rfl rfl))) rfl)) ?_
        exact Steps.nil
      clear hS
      intro at7 w8 hS hI hp
      have hBw8_w := hI.1
      have hBw8_w3 := hI.2
      replace hS := ((hS.nil).cons (hS.get 1 rfl)).cons (hS.get 0 rfl)
      have hv5 : sl _ 5 = .int .i64 (wrap64 (35 + t6)) := hp 3 (by decide)
      have hBw8_w8 := Below.refl w8.heap.size w8
      have hS := hS.cons hv5
      clear hp hI hv5
      refine hK5 _ _ ?_
      clear hK5 K5
      refine wp_seq_k (fun K9 hK9 => ?_)
      refine reg_seq (N := 76) (bs := [(5, .int .i64 (wrap64 (35 + t6))), (4, .bool false), (2, .pointer (some ⟨g4, 0, none⟩))]) (I := fun x => Below w.heap.size w x ∧ Below w3.heap.size w3 x ∧ Below w8.heap.size w8 x) (ps := [IsV (.agg #[.int .i64 a0_0, .int .i64 a0_1, .int .i64 a0_2, .int .i64 a0_3, .int .u64 a0_4, .int .i64 a0_5, .int .i64 a0_6, .int .i64 a0_7, .int .i64 a0_8, .int .u64 a0_9, .int .i64 a0_10, .int .i64 a0_11, .int .i64 a0_12, .int .i64 a0_13, .int .i64 a0_14, .int .i64 a0_15, .int .i64 a0_16, .int .u64 a0_17, .int .i64 a0_18, .int .i64 a0_19, .int .i64 a0_20, .int .i64 a0_21, .int .i64 a0_22]), IsV (.int .i64 (wrap64 (35 + t6))), IsTR (Kd.int .u8) 5 w8.heap.size t10_1 [.bool t10_2], IsTR (Kd.int .u8) 5 w8.heap.size t10_1 [.bool t10_2], IsR (Kd.int .u8) 5 w8.heap.size t10_1, IsV (.bool t10_2), IsR (Kd.int .u8) 5 w8.heap.size t10_1, IsV (.bool t10_2)]) (by kernel_rfl) ?_ ?_ rfl hS ⟨hBw8_w, hBw8_w3, hBw8_w8⟩ ?_ ?_
      · exact fun x y hI hb => ⟨below_step hI.1 hb, below_step hI.2.1 hb, below_step hI.2.2 hb⟩
      · exact AllStay.cons (Stays.v _) (AllStay.cons (Stays.v _) (AllStay.cons (Stays.tr _ _ _ _ _) (AllStay.cons (Stays.tr _ _ _ _ _) (AllStay.cons (Stays.r _ _ _ _) (AllStay.cons (Stays.v _) (AllStay.cons (Stays.r _ _ _ _) (AllStay.cons (Stays.v _) (AllStay.nil))))))))
      · refine Steps.cons (fun a w hS hI hp => ok_on rfl (does_loadrow rfl (hS.get 2 rfl) (((hI.2.1).block g4 (blk_lt hbxg4)).trans hbxg4) Try.underlying28 rfl (by kernel_rfl) rfl)) ?_
        refine Steps.cons (fun a w hS hI hp => ok_on rfl (does_val (x_move rfl (hS.get 0 rfl)) rfl)) ?_
        refine Steps.cons (fun a w hS hI hp => ok_on rfl (does_call (by kernel_rfl) (ar2 ((hp.get 0 (by rfl) rfl rfl)) ((hp.get 1 (by rfl) rfl rfl))) ((header_Put.calls k a0_0 a0_1 a0_2 a0_3 a0_4 a0_5 a0_6 a0_7 a0_8 a0_9 a0_10 a0_11 a0_12 a0_13 a0_14 a0_15 a0_16 a0_17 a0_18 a0_19 a0_20 a0_21 a0_22 (wrap64 (35 + t6)) t10_1 t10_2 _  At10).mono fun _ _ h => h.elim fun v0 h => ⟨_, h.1, h.2.2, v0, rfl, Kd.R_lower h.2.1 hI.2.2.size⟩))) ?_
        refine Steps.cons (fun a w hS hI hp => ok_on rfl (does_val (x_move rfl rfl) ((hp.get 2 (by rfl) rfl rfl)))) ?_
        refine Steps.cons (fun a w hS hI hp => ok_on rfl (((hp.get 3 (by rfl) rfl rfl)).elim fun v0 h0 => does_val (x_extract rfl h0.1 rfl) h0.2)) ?_
        refine Steps.cons (fun a w hS hI hp => ok_on rfl (((hp.get 3 (by rfl) rfl rfl)).elim fun v0 h0 => does_val (x_extract rfl h0.1 rfl) rfl)) ?_
        refine Steps.cons (fun a w hS hI hp => ok_on rfl (does_val (x_assign rfl rfl) ((hp.get 4 (by rfl) rfl rfl)))) ?_
        refine Steps.cons (fun a w hS hI hp => ok_on rfl (does_val (x_assign rfl ((hp.get 5 (by rfl) rfl rfl))) rfl)) ?_
        exact Steps.nil
      clear hS
      intro at11 w12 hS hI hp
      have hBw12_w := hI.1
      have hBw12_w3 := hI.2.1
      have hBw12_w8 := hI.2.2
      replace hS := ((hS.nil).cons (hS.get 1 rfl)).cons (hS.get 0 rfl)
      obtain ⟨A13, C13, hv6, hl13, hc13⟩ := Kd.R_reads (show Kd.R (Kd.int .u8) 5 w12 w8.heap.size (fun _ => True) (sl _ 6) t10_1 from hp 6 (by decide))
      have ho13 : Kd.R (Kd.int .u8) 5 w12 w8.heap.size (fun _ => True) (.slice A13 t10_1.length C13) t10_1 := hv6 ▸ (hp 6 (by decide))
      have hv7 : sl _ 7 = .bool t10_2 := hp 7 (by decide)
      have hBw12_w12 := Below.refl w12.heap.size w12
      have hS := hS.cons hv6
      have hS := hS.cons hv7
      clear hp hI hv6 hv7
      refine hK9 _ _ ?_
      clear hK9 K9
      refine wp_seq_k (fun K14 hK14 => ?_)
      refine wp_seq_k (fun K15 hK15 => ?_)
      refine reg_seq (N := 76) (bs := [(7, .bool t10_2), (6, .slice A13 t10_1.length C13), (5, .int .i64 (wrap64 (35 + t6))), (4, .bool false)]) (I := fun x => Below w.heap.size w x ∧ Below w3.heap.size w3 x ∧ Below w8.heap.size w8 x ∧ Below w12.heap.size w12 x) (ps := [IsV (.bool t10_2), IsV (.bool (!t10_2))]) (by kernel_rfl) ?_ ?_ rfl hS ⟨hBw12_w, hBw12_w3, hBw12_w8, hBw12_w12⟩ ?_ ?_
      · exact fun x y hI hb => ⟨below_step hI.1 hb, below_step hI.2.1 hb, below_step hI.2.2.1 hb, below_step hI.2.2.2 hb⟩
      · exact AllStay.cons (Stays.v _) (AllStay.cons (Stays.v _) (AllStay.nil))
      · refine Steps.cons (fun a w hS hI hp => ok_on rfl (does_val (x_move rfl (hS.get 0 rfl)) rfl)) ?_
        refine Steps.cons (fun a w hS hI hp => ok_on rfl (does_val (x_not rfl ((hp.get 0 (by rfl) rfl rfl))) rfl)) ?_
        exact Steps.nil
      clear hS
      intro at16 w17 hS hI hp
      have hBw17_w := hI.1
      have hBw17_w3 := hI.2.1
      have hBw17_w8 := hI.2.2.1
      have hBw17_w12 := hI.2.2.2
      replace hS := (((hS.nil).cons (hS.get 3 rfl)).cons (hS.get 2 rfl)).cons (hS.get 1 rfl)
      have hv27 : sl _ 27 = .bool (!t10_2) := hp 1 (by decide)
      have hBw17_w17 := Below.refl w17.heap.size w17
      have hS := hS.cons hv27
      clear hp hI hv27
      refine hK15 _ _ ?_
      clear hK15 K15
      refine wp_cond_true ((hS.get 0 rfl).trans (bT (congrArg (!·) (Bool.eq_false_iff.2 c1)))) ?_
      refine wp_seq_k (fun K18 hK18 => ?_)
      replace hS := (((hS.nil).cons (hS.get 2 rfl)).cons (hS.get 1 rfl)).cons (hS.get 0 rfl)
      refine reg_seq (N := 76) (bs := [(27, .bool (!t10_2)), (6, .slice A13 t10_1.length C13), (5, .int .i64 (wrap64 (35 + t6)))]) (I := fun x => Below w.heap.size w x ∧ Below w3.heap.size w3 x ∧ Below w8.heap.size w8 x ∧ Below w12.heap.size w12 x ∧ Below w17.heap.size w17 x) (ps := [IsV (.slice A13 t10_1.length C13), IsV (.int .i64 (t10_1.length : Int)), IsV (.bool (decide ((t10_1.length : Int) = 0))), IsV (.bool (decide ((t10_1.length : Int) = 0))), IsV (.bool t19), IsV (.bool t19), IsV (.bool t19)]) (by kernel_rfl) ?_ ?_ rfl hS ⟨hBw17_w, hBw17_w3, hBw17_w8, hBw17_w12, hBw17_w17⟩ ?_ ?_
      · exact fun x y hI hb => ⟨below_step hI.1 hb, below_step hI.2.1 hb, below_step hI.2.2.1 hb, below_step hI.2.2.2.1 hb, below_step hI.2.2.2.2 hb⟩
      · exact AllStay.cons (Stays.v _) (AllStay.cons (Stays.v _) (AllStay.cons (Stays.v _) (AllStay.cons (Stays.v _) (AllStay.cons (Stays.v _) (AllStay.cons (Stays.v _) (AllStay.cons (Stays.v _) (AllStay.nil)))))))
      · refine Steps.cons (fun a w hS hI hp => ok_on rfl (does_val (x_move rfl (hS.get 1 rfl)) rfl)) ?_
        refine Steps.cons (fun a w hS hI hp => ok_on rfl (does_val (x_len (e := 5) rfl (by kernel_rfl) ((hp.get 0 (by rfl) rfl rfl))) rfl)) ?_
        refine Steps.cons (fun a w hS hI hp => ok_on rfl (does_val (x_bin rfl ((hp.get 1 (by rfl) rfl rfl)) (rfl) (b_eql _ _ _ _ _ _)) rfl)) ?_
        refine Steps.cons (fun a w hS hI hp => ok_on rfl (does_val (x_move rfl ((hp.get 2 (by rfl) rfl rfl))) rfl)) ?_
        refine Steps.cons (fun a w hS hI hp => ok_if (d := 31) rfl rfl (by rw [hS.size]; decide) (((hp.get 3 (by rfl) rfl rfl)).trans (bT (decide_eq_true c2))) (does_call (by kernel_rfl) rfl ((carillonlaw06_awake.calls k  t19 _  At19).mono fun _ _ h => ⟨_, h.1, h.2, rfl⟩))) ?_
        refine Steps.cons (fun a w hS hI hp => ok_on rfl (does_val (x_pickT rfl (((hp.get 3 (by rfl) rfl rfl)).trans (bT (decide_eq_true c2))) ((hp.get 4 (by rfl) rfl rfl))) rfl)) ?_
        refine Steps.cons (fun a w hS hI hp => ok_on rfl (does_val (x_assign rfl ((hp.get 5 (by rfl) rfl rfl))) rfl)) ?_
        exact Steps.nil
      clear hS
      intro at20 w21 hS hI hp
      have hBw21_w := hI.1
      have hBw21_w3 := hI.2.1
      have hBw21_w8 := hI.2.2.1
      have hBw21_w12 := hI.2.2.2.1
      have hBw21_w17 := hI.2.2.2.2
      have hv4 : sl _ 4 = .bool t19 := hp 6 (by decide)
      have hBw21_w21 := Below.refl w21.heap.size w21
      have hS := hS.cons hv4
      clear hp hI hv4
      refine hK18 _ _ ?_
      clear hK18 K18
      refine wp_ret ?_
      (try simp only [Exit.then, Exit.inBlock])
      exact bodyPost_ret (v := .bool true) (by rw [results_tmp rfl]; exact congrArg (Result.ok · _) ((hS.get 0 rfl).trans (congrArg Value.bool hret))) hS.nodef ⟨rfl, hBw21_w⟩
    · rw [if_neg c2] at H
      exact absurd H (by simp)

/-- The one pure statement of carillonlaw06_HeaderLengths. -/
def carillonlaw06_HeaderLengths.Pure : Prop := ∀ (a0_0 : Int) (a0_1 : Int) (a0_2 : Int) (a0_3 : Int) (a0_4 : Int) (a0_5 : Int) (a0_6 : Int) (a0_7 : Int) (a0_8 : Int) (a0_9 : Int) (a0_10 : Int) (a0_11 : Int) (a0_12 : Int) (a0_13 : Int) (a0_14 : Int) (a0_15 : Int) (a0_16 : Int) (a0_17 : Int) (a0_18 : Int) (a0_19 : Int) (a0_20 : Int) (a0_21 : Int) (a0_22 : Int) (a1 : Int), (Lit.int .i64 a0_0).wf = true → (Lit.int .i64 a0_1).wf = true → (Lit.int .i64 a0_2).wf = true → (Lit.int .i64 a0_3).wf = true → (Lit.int .u64 a0_4).wf = true → (Lit.int .i64 a0_5).wf = true → (Lit.int .i64 a0_6).wf = true → (Lit.int .i64 a0_7).wf = true → (Lit.int .i64 a0_8).wf = true → (Lit.int .u64 a0_9).wf = true → (Lit.int .i64 a0_10).wf = true → (Lit.int .i64 a0_11).wf = true → (Lit.int .i64 a0_12).wf = true → (Lit.int .i64 a0_13).wf = true → (Lit.int .i64 a0_14).wf = true → (Lit.int .i64 a0_15).wf = true → (Lit.int .i64 a0_16).wf = true → (Lit.int .u64 a0_17).wf = true → (Lit.int .i64 a0_18).wf = true → (Lit.int .i64 a0_19).wf = true → (Lit.int .i64 a0_20).wf = true → (Lit.int .i64 a0_21).wf = true → (Lit.int .i64 a0_22).wf = true → (Lit.int .i64 a1).wf = true → ∃ k, carillonlaw06_HeaderLengths.f k a0_0 a0_1 a0_2 a0_3 a0_4 a0_5 a0_6 a0_7 a0_8 a0_9 a0_10 a0_11 a0_12 a0_13 a0_14 a0_15 a0_16 a0_17 a0_18 a0_19 a0_20 a0_21 a0_22 a1 = some true
theorem carillonlaw06_HeaderLengths.walk (P : carillonlaw06_HeaderLengths.Pure) (a0_0 : Int) (a0_1 : Int) (a0_2 : Int) (a0_3 : Int) (a0_4 : Int) (a0_5 : Int) (a0_6 : Int) (a0_7 : Int) (a0_8 : Int) (a0_9 : Int) (a0_10 : Int) (a0_11 : Int) (a0_12 : Int) (a0_13 : Int) (a0_14 : Int) (a0_15 : Int) (a0_16 : Int) (a0_17 : Int) (a0_18 : Int) (a0_19 : Int) (a0_20 : Int) (a0_21 : Int) (a0_22 : Int) (a1 : Int) (w : World) (w0_0 : (Lit.int .i64 a0_0).wf = true) (w0_1 : (Lit.int .i64 a0_1).wf = true) (w0_2 : (Lit.int .i64 a0_2).wf = true) (w0_3 : (Lit.int .i64 a0_3).wf = true) (w0_4 : (Lit.int .u64 a0_4).wf = true) (w0_5 : (Lit.int .i64 a0_5).wf = true) (w0_6 : (Lit.int .i64 a0_6).wf = true) (w0_7 : (Lit.int .i64 a0_7).wf = true) (w0_8 : (Lit.int .i64 a0_8).wf = true) (w0_9 : (Lit.int .u64 a0_9).wf = true) (w0_10 : (Lit.int .i64 a0_10).wf = true) (w0_11 : (Lit.int .i64 a0_11).wf = true) (w0_12 : (Lit.int .i64 a0_12).wf = true) (w0_13 : (Lit.int .i64 a0_13).wf = true) (w0_14 : (Lit.int .i64 a0_14).wf = true) (w0_15 : (Lit.int .i64 a0_15).wf = true) (w0_16 : (Lit.int .i64 a0_16).wf = true) (w0_17 : (Lit.int .u64 a0_17).wf = true) (w0_18 : (Lit.int .i64 a0_18).wf = true) (w0_19 : (Lit.int .i64 a0_19).wf = true) (w0_20 : (Lit.int .i64 a0_20).wf = true) (w0_21 : (Lit.int .i64 a0_21).wf = true) (w0_22 : (Lit.int .i64 a0_22).wf = true) (w1 : (Lit.int .i64 a1).wf = true) :
    Calls Try.prog 8 #[.agg #[.int .i64 a0_0, .int .i64 a0_1, .int .i64 a0_2, .int .i64 a0_3, .int .u64 a0_4, .int .i64 a0_5, .int .i64 a0_6, .int .i64 a0_7, .int .i64 a0_8, .int .u64 a0_9, .int .i64 a0_10, .int .i64 a0_11, .int .i64 a0_12, .int .i64 a0_13, .int .i64 a0_14, .int .i64 a0_15, .int .i64 a0_16, .int .u64 a0_17, .int .i64 a0_18, .int .i64 a0_19, .int .i64 a0_20, .int .i64 a0_21, .int .i64 a0_22], .int .i64 a1] w fun e w' => e = .returned (.bool true) ∧ Below w.heap.size w w' := by
  obtain ⟨k, h⟩ := P a0_0 a0_1 a0_2 a0_3 a0_4 a0_5 a0_6 a0_7 a0_8 a0_9 a0_10 a0_11 a0_12 a0_13 a0_14 a0_15 a0_16 a0_17 a0_18 a0_19 a0_20 a0_21 a0_22 a1 w0_0 w0_1 w0_2 w0_3 w0_4 w0_5 w0_6 w0_7 w0_8 w0_9 w0_10 w0_11 w0_12 w0_13 w0_14 w0_15 w0_16 w0_17 w0_18 w0_19 w0_20 w0_21 w0_22 w1
  refine (carillonlaw06_HeaderLengths.calls k a0_0 a0_1 a0_2 a0_3 a0_4 a0_5 a0_6 a0_7 a0_8 a0_9 a0_10 a0_11 a0_12 a0_13 a0_14 a0_15 a0_16 a0_17 a0_18 a0_19 a0_20 a0_21 a0_22 a1 w  h).mono ?_
  rintro e w' ⟨rfl, hd⟩
  exact ⟨rfl, hd⟩

end Go.Proofs.Ytcflafkafbpibaa.P
