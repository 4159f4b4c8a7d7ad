/- Functions and loops of the given program as Lean functions, and that the code comes to what they say: written by this session's own program; Lean checks it. -/
import Derived.Test.YtcflafkafbpibaaPx0
import Derived.Test.YtcflafkafbpibaaPx5
import Derived.Test.YtcflafkafbpibaaPx9
import Derived.Test.YtcflafkafbpibaaPx10
import Derived.Test.YtcflafkafbpibaaPx12
namespace Go.Proofs.Ytcflafkafbpibaa.P
open Go.RowKit Go.Proofs.YtcflafkafbpibaaW.PrintWords Go.Proofs.YtcflafkafbpibaaW.PrintLast Go.Proofs.YtcflafkafbpibaaW.PrintMore
attribute [local go_sem] max2_int min2_int max_two min_two max_three min_three max_four min_four   -- for this text's walks alone
set_option linter.unusedVariables false
set_option linter.unusedSimpArgs false

/-! ### carillonlaw06_HeaderGets: function 6: by our own printer -/
def carillonlaw06_HeaderGets.f (k : Nat) (l0 : List Int) : Option (Bool) := (carillonlaw00_Bytes.f l0).bind fun t5 => ((header_Get.f k t5).bind fun t6 => ((carillonref06_Get.f k l0).bind fun t14 => (if ((t6.1 == t14.1) && ((t6.2.1 == t14.2.1) && ((t6.2.2.1 == t14.2.2.1) && ((t6.2.2.2.1 == t14.2.2.2.1) && ((t6.2.2.2.2.1 == t14.2.2.2.2.1) && ((t6.2.2.2.2.2.1 == t14.2.2.2.2.2.1) && ((t6.2.2.2.2.2.2.1 == t14.2.2.2.2.2.2.1) && ((t6.2.2.2.2.2.2.2.1 == t14.2.2.2.2.2.2.2.1) && ((t6.2.2.2.2.2.2.2.2.1 == t14.2.2.2.2.2.2.2.2.1) && ((t6.2.2.2.2.2.2.2.2.2.1 == t14.2.2.2.2.2.2.2.2.2.1) && ((t6.2.2.2.2.2.2.2.2.2.2.1 == t14.2.2.2.2.2.2.2.2.2.2.1) && ((t6.2.2.2.2.2.2.2.2.2.2.2.1 == t14.2.2.2.2.2.2.2.2.2.2.2.1) && ((t6.2.2.2.2.2.2.2.2.2.2.2.2.1 == t14.2.2.2.2.2.2.2.2.2.2.2.2.1) && ((t6.2.2.2.2.2.2.2.2.2.2.2.2.2.1 == t14.2.2.2.2.2.2.2.2.2.2.2.2.2.1) && ((t6.2.2.2.2.2.2.2.2.2.2.2.2.2.2.1 == t14.2.2.2.2.2.2.2.2.2.2.2.2.2.2.1) && ((t6.2.2.2.2.2.2.2.2.2.2.2.2.2.2.2.1 == t14.2.2.2.2.2.2.2.2.2.2.2.2.2.2.2.1) && ((t6.2.2.2.2.2.2.2.2.2.2.2.2.2.2.2.2.1 == t14.2.2.2.2.2.2.2.2.2.2.2.2.2.2.2.2.1) && ((t6.2.2.2.2.2.2.2.2.2.2.2.2.2.2.2.2.2.1 == t14.2.2.2.2.2.2.2.2.2.2.2.2.2.2.2.2.2.1) && ((t6.2.2.2.2.2.2.2.2.2.2.2.2.2.2.2.2.2.2.1 == t14.2.2.2.2.2.2.2.2.2.2.2.2.2.2.2.2.2.2.1) && ((t6.2.2.2.2.2.2.2.2.2.2.2.2.2.2.2.2.2.2.2.1 == t14.2.2.2.2.2.2.2.2.2.2.2.2.2.2.2.2.2.2.2.1) && ((t6.2.2.2.2.2.2.2.2.2.2.2.2.2.2.2.2.2.2.2.2.1 == t14.2.2.2.2.2.2.2.2.2.2.2.2.2.2.2.2.2.2.2.2.1) && ((t6.2.2.2.2.2.2.2.2.2.2.2.2.2.2.2.2.2.2.2.2.2.1 == t14.2.2.2.2.2.2.2.2.2.2.2.2.2.2.2.2.2.2.2.2.2.1) && (t6.2.2.2.2.2.2.2.2.2.2.2.2.2.2.2.2.2.2.2.2.2.2.1 == t14.2.2.2.2.2.2.2.2.2.2.2.2.2.2.2.2.2.2.2.2.2.2.1))))))))))))))))))))))) = true then (if t6.2.2.2.2.2.2.2.2.2.2.2.2.2.2.2.2.2.2.2.2.2.2.2.1 = t14.2.2.2.2.2.2.2.2.2.2.2.2.2.2.2.2.2.2.2.2.2.2.2.1 then (if t6.2.2.2.2.2.2.2.2.2.2.2.2.2.2.2.2.2.2.2.2.2.2.2.2 = t14.2.2.2.2.2.2.2.2.2.2.2.2.2.2.2.2.2.2.2.2.2.2.2.2 then ((carillonlaw06_awake.f k ).bind fun t22 => (some t22)) else (some false)) else (some false)) else (some false))))
open Go.Proofs.Ytcflafkafbpibaa.E in
set_option maxRecDepth 100000 in
theorem carillonlaw06_HeaderGets.eql28 (x y : Operand) (w : World) (a0 a1 a2 a3 a4 a5 a6 a7 a8 a9 a10 a11 a12 a13 a14 a15 a16 a17 a18 a19 a20 a21 a22 b0 b1 b2 b3 b4 b5 b6 b7 b8 b9 b10 b11 b12 b13 b14 b15 b16 b17 b18 b19 b20 b21 b22 : Int) : (do eqGuard .eql 28 x y (.agg #[.int .i64 a0, .int .i64 a1, .int .i64 a2, .int .i64 a3, .int .u64 a4, .int .i64 a5, .int .i64 a6, .int .i64 a7, .int .i64 a8, .int .u64 a9, .int .i64 a10, .int .i64 a11, .int .i64 a12, .int .i64 a13, .int .i64 a14, .int .i64 a15, .int .i64 a16, .int .u64 a17, .int .i64 a18, .int .i64 a19, .int .i64 a20, .int .i64 a21, .int .i64 a22]) (.agg #[.int .i64 b0, .int .i64 b1, .int .i64 b2, .int .i64 b3, .int .u64 b4, .int .i64 b5, .int .i64 b6, .int .i64 b7, .int .i64 b8, .int .u64 b9, .int .i64 b10, .int .i64 b11, .int .i64 b12, .int .i64 b13, .int .i64 b14, .int .i64 b15, .int .i64 b16, .int .u64 b17, .int .i64 b18, .int .i64 b19, .int .i64 b20, .int .i64 b21, .int .i64 b22]); binOp .eql 28 (.agg #[.int .i64 a0, .int .i64 a1, .int .i64 a2, .int .i64 a3, .int .u64 a4, .int .i64 a5, .int .i64 a6, .int .i64 a7, .int .i64 a8, .int .u64 a9, .int .i64 a10, .int .i64 a11, .int .i64 a12, .int .i64 a13, .int .i64 a14, .int .i64 a15, .int .i64 a16, .int .u64 a17, .int .i64 a18, .int .i64 a19, .int .i64 a20, .int .i64 a21, .int .i64 a22]) (.agg #[.int .i64 b0, .int .i64 b1, .int .i64 b2, .int .i64 b3, .int .u64 b4, .int .i64 b5, .int .i64 b6, .int .i64 b7, .int .i64 b8, .int .u64 b9, .int .i64 b10, .int .i64 b11, .int .i64 b12, .int .i64 b13, .int .i64 b14, .int .i64 b15, .int .i64 b16, .int .u64 b17, .int .i64 b18, .int .i64 b19, .int .i64 b20, .int .i64 b21, .int .i64 b22]) : Sem Value).run Try.prog w = .ok (.bool ((a0 == b0) && ((a1 == b1) && ((a2 == b2) && ((a3 == b3) && ((a4 == b4) && ((a5 == b5) && ((a6 == b6) && ((a7 == b7) && ((a8 == b8) && ((a9 == b9) && ((a10 == b10) && ((a11 == b11) && ((a12 == b12) && ((a13 == b13) && ((a14 == b14) && ((a15 == b15) && ((a16 == b16) && ((a17 == b17) && ((a18 == b18) && ((a19 == b19) && ((a20 == b20) && ((a21 == b21) && (a22 == b22)))))))))))))))))))))))) w := by
  have hu3 := Try.underlying3
  have hu22 := Try.underlying22
  have hu24 := Try.underlying24
  have hu26 := Try.underlying26
  have hu28 := Try.underlying28
  conv => lhs; simp [eqGuard, go_sem, hu3, hu22, hu24, hu26, hu28]
  exact ite_and (ite_and (ite_and (ite_and (ite_and (ite_and (ite_and (ite_and (ite_and (ite_and (ite_and (ite_and (ite_and (ite_and (ite_and (ite_and (ite_and (ite_and (ite_and (ite_and (ite_and (ite_and (ite_last))))))))))))))))))))))
open Go.Proofs.Ytcflafkafbpibaa.E in
set_option maxHeartbeats 8000000 in
set_option maxRecDepth 100000 in
theorem carillonlaw06_HeaderGets.calls (k : Nat) (A0 : Option Addr) (c0 : Nat) (l0 : List Int) (w : World) (HR0 : Kd.C (Kd.int .u8) w A0 l0.length l0) (HC0 : l0.length ≤ c0) (h : carillonlaw06_HeaderGets.f k l0 = some true) :
    Calls Try.prog 6 #[.slice A0 l0.length c0] w fun e w' => e = .returned (.bool true) ∧ Below w.heap.size w w' := by
  have H := h
  clear h
  unfold carillonlaw06_HeaderGets.f at H
  obtain ⟨t5, At5, H⟩ := Option.bind_eq_some_iff.mp H
  obtain ⟨t6, At6, H⟩ := Option.bind_eq_some_iff.mp H
  obtain ⟨t6_1, t6_2, t6_3, t6_4, t6_5, t6_6, t6_7, t6_8, t6_9, t6_10, t6_11, t6_12, t6_13, t6_14, t6_15, t6_16, t6_17, t6_18, t6_19, t6_20, t6_21, t6_22, t6_23, t6_24, t6_25⟩ := t6
  (try dsimp only at H)
  obtain ⟨t14, At14, H⟩ := Option.bind_eq_some_iff.mp H
  obtain ⟨t14_1, t14_2, t14_3, t14_4, t14_5, t14_6, t14_7, t14_8, t14_9, t14_10, t14_11, t14_12, t14_13, t14_14, t14_15, t14_16, t14_17, t14_18, t14_19, t14_20, t14_21, t14_22, t14_23, t14_24, t14_25⟩ := t14
  (try dsimp only at H)
  by_cases c1 : ((t6_1 == t14_1) && ((t6_2 == t14_2) && ((t6_3 == t14_3) && ((t6_4 == t14_4) && ((t6_5 == t14_5) && ((t6_6 == t14_6) && ((t6_7 == t14_7) && ((t6_8 == t14_8) && ((t6_9 == t14_9) && ((t6_10 == t14_10) && ((t6_11 == t14_11) && ((t6_12 == t14_12) && ((t6_13 == t14_13) && ((t6_14 == t14_14) && ((t6_15 == t14_15) && ((t6_16 == t14_16) && ((t6_17 == t14_17) && ((t6_18 == t14_18) && ((t6_19 == t14_19) && ((t6_20 == t14_20) && ((t6_21 == t14_21) && ((t6_22 == t14_22) && (t6_23 == t14_23))))))))))))))))))))))) = true
  · rw [if_pos c1] at H
    by_cases c2 : t6_24 = t14_24
    · rw [if_pos c2] at H
      by_cases c3 : t6_25 = t14_25
      · rw [if_pos c3] at H
        obtain ⟨t22, At22, H⟩ := Option.bind_eq_some_iff.mp H
        have hret := Option.some.inj H
        clear H
        refine calls_of_wp (fn := Try.f6) (by kernel_rfl) rfl ?_
        have hS := St.enter #[.slice A0 l0.length c0] 38 (by simp) [(0, .slice A0 l0.length c0)] (by simp)
        have HB0 := Below.refl w.heap.size w
        refine wp_seq_k (fun K1 hK1 => ?_)
        refine reg_seq (N := 38) (bs := [(0, .slice A0 l0.length c0)]) (I := fun x => Below w.heap.size w x) (ps := [IsV (.bool false)]) (by kernel_rfl) ?_ ?_ rfl hS HB0 ?_ ?_
        · exact fun x y hI hb => below_step hI hb
        · exact AllStay.cons (Stays.v _) (AllStay.nil)
        · refine Steps.cons (fun a w hS hI hp => ok_on rfl (does_val (x_assign rfl (rfl)) rfl)) ?_
          exact Steps.nil
        clear hS
        intro at2 w3 hS hI hp
        have hBw3_w := hI
        have hv2 : sl _ 2 = .bool false := hp 0 (by decide)
        have hBw3_w3 := Below.refl w3.heap.size w3
        have hS := hS.cons hv2
        clear hp hI hv2
        refine hK1 _ _ ?_
        clear hK1 K1
        refine wp_seq_k (fun K4 hK4 => ?_)
        refine reg_seq_tail 8 (N := 38) (bs := [(2, .bool false), (0, .slice A0 l0.length c0)]) (I := fun x => Below w.heap.size w x ∧ Below w3.heap.size w3 x) (ps := [IsV (.slice A0 l0.length c0), IsR (Kd.int .u8) 5 w3.heap.size t5, IsV (.tuple #[.agg #[.int .i64 t6_1, .int .i64 t6_2, .int .i64 t6_3, .int .i64 t6_4, .int .u64 t6_5, .int .i64 t6_6, .int .i64 t6_7, .int .i64 t6_8, .int .i64 t6_9, .int .u64 t6_10, .int .i64 t6_11, .int .i64 t6_12, .int .i64 t6_13, .int .i64 t6_14, .int .i64 t6_15, .int .i64 t6_16, .int .i64 t6_17, .int .u64 t6_18, .int .i64 t6_19, .int .i64 t6_20, .int .i64 t6_21, .int .i64 t6_22, .int .i64 t6_23], .int .i64 t6_24, .int .i64 t6_25]), IsV (.tuple #[.agg #[.int .i64 t6_1, .int .i64 t6_2, .int .i64 t6_3, .int .i64 t6_4, .int .u64 t6_5, .int .i64 t6_6, .int .i64 t6_7, .int .i64 t6_8, .int .i64 t6_9, .int .u64 t6_10, .int .i64 t6_11, .int .i64 t6_12, .int .i64 t6_13, .int .i64 t6_14, .int .i64 t6_15, .int .i64 t6_16, .int .i64 t6_17, .int .u64 t6_18, .int .i64 t6_19, .int .i64 t6_20, .int .i64 t6_21, .int .i64 t6_22, .int .i64 t6_23], .int .i64 t6_24, .int .i64 t6_25]), IsV (.agg #[.int .i64 t6_1, .int .i64 t6_2, .int .i64 t6_3, .int .i64 t6_4, .int .u64 t6_5, .int .i64 t6_6, .int .i64 t6_7, .int .i64 t6_8, .int .i64 t6_9, .int .u64 t6_10, .int .i64 t6_11, .int .i64 t6_12, .int .i64 t6_13, .int .i64 t6_14, .int .i64 t6_15, .int .i64 t6_16, .int .i64 t6_17, .int .u64 t6_18, .int .i64 t6_19, .int .i64 t6_20, .int .i64 t6_21, .int .i64 t6_22, .int .i64 t6_23]), IsV (.int .i64 t6_24), IsV (.int .i64 t6_25), IsB #[.int .i64 0, .int .i64 0, .int .i64 0, .int .i64 0, .int .u64 0, .int .i64 0, .int .i64 0, .int .i64 0, .int .i64 0, .int .u64 0, .int .i64 0, .int .i64 0, .int .i64 0, .int .i64 0, .int .i64 0, .int .i64 0, .int .i64 0, .int .u64 0, .int .i64 0, .int .i64 0, .int .i64 0, .int .i64 0, .int .i64 0] 28 w3.heap.size]) (by kernel_rfl) ?_ ?_ rfl hS ⟨hBw3_w, hBw3_w3⟩ ?_ ?_
        · exact fun x y hI hb => ⟨below_step hI.1 hb, below_step hI.2 hb⟩
        · exact AllStay.cons (Stays.v _) (AllStay.cons (Stays.r _ _ _ _) (AllStay.cons (Stays.v _) (AllStay.cons (Stays.v _) (AllStay.cons (Stays.v _) (AllStay.cons (Stays.v _) (AllStay.cons (Stays.v _) (AllStay.cons (Stays.b _ _ _) (AllStay.nil))))))))
        · refine Steps.cons (fun a w hS hI hp => ok_on rfl (does_val (x_move rfl (hS.get 1 rfl)) rfl)) ?_
          refine Steps.cons (fun a w hS hI hp => ok_on rfl (does_call (by kernel_rfl) (ar1 ((hp.get 0 (by rfl) rfl rfl))) ((carillonlaw00_Bytes.calls _ _ l0 t5 _ (Kd.C_below HR0 hI.1) HC0 At5).mono fun _ _ h => h.elim fun v0 h => ⟨v0, h.1, h.2.2, Kd.R_lower h.2.1 hI.2.size⟩))) ?_
          refine Steps.cons (fun a w hS hI hp => ok_on rfl ((IsC.of_r ((hp.get 1 (by rfl) rfl rfl))).elim fun A_ h_ => h_.elim fun c_ h_ => h_.elim fun hv_ h_ => h_.elim fun hl_ hc_ => does_call (by kernel_rfl) (ar1 (hv_)) ((header_Get.calls k _ _ t5 t6_1 t6_2 t6_3 t6_4 t6_5 t6_6 t6_7 t6_8 t6_9 t6_10 t6_11 t6_12 t6_13 t6_14 t6_15 t6_16 t6_17 t6_18 t6_19 t6_20 t6_21 t6_22 t6_23 t6_24 t6_25 _ hc_ hl_ At6).mono fun _ _ h => ⟨_, h.1, h.2, rfl⟩))) ?_
          refine Steps.cons (fun a w hS hI hp => ok_on rfl (does_val (x_move rfl ((hp.get 2 (by rfl) rfl rfl))) rfl)) ?_
          refine Steps.cons (fun a w hS hI hp => ok_on rfl (does_val (x_extract rfl ((hp.get 3 (by rfl) rfl rfl)) rfl) rfl)) ?_
          refine Steps.cons (fun a w hS hI hp => ok_on rfl (does_val (x_extract rfl ((hp.get 3 (by rfl) rfl rfl)) rfl) rfl)) ?_
          refine Steps.cons (fun a w hS hI hp => ok_on rfl (does_val (x_extract rfl ((hp.get 3 (by rfl) rfl rfl)) rfl) rfl)) ?_
          refine Steps.cons (fun a w hS hI hp => ok_on rfl (does_var (x_alloc rfl (by kernel_rfl)) (hI.2).size)) ?_
          exact Steps.nil
        clear hS
        intro at7 w8 hS hI hp
        have hBw8_w := hI.1
        have hBw8_w3 := hI.2
        have hv13 : sl _ 13 = .agg #[.int .i64 t6_1, .int .i64 t6_2, .int .i64 t6_3, .int .i64 t6_4, .int .u64 t6_5, .int .i64 t6_6, .int .i64 t6_7, .int .i64 t6_8, .int .i64 t6_9, .int .u64 t6_10, .int .i64 t6_11, .int .i64 t6_12, .int .i64 t6_13, .int .i64 t6_14, .int .i64 t6_15, .int .i64 t6_16, .int .i64 t6_17, .int .u64 t6_18, .int .i64 t6_19, .int .i64 t6_20, .int .i64 t6_21, .int .i64 t6_22, .int .i64 t6_23] := hp 4 (by decide)
        have hv14 : sl _ 14 = .int .i64 t6_24 := hp 5 (by decide)
        have hv15 : sl _ 15 = .int .i64 t6_25 := hp 6 (by decide)
        obtain ⟨g9, hv3, hgeg9, hbxg9⟩ := (show IsB _ 28 _ (sl _ 3) _ from hp 7 (by decide))
        have hBw8_w8 := Below.refl w8.heap.size w8
        have hS := hS.cons hv13
        have hS := hS.cons hv14
        have hS := hS.cons hv15
        have hS := hS.cons hv3
        clear hp hI hv13 hv14 hv15 hv3
        show wpList _ _ _ [_, _, _] _ _
        refine list_step rfl (does_storeAll (g := g9) (cs := #[.int .i64 t6_1, .int .i64 t6_2, .int .i64 t6_3, .int .i64 t6_4, .int .u64 t6_5, .int .i64 t6_6, .int .i64 t6_7, .int .i64 t6_8, .int .i64 t6_9, .int .u64 t6_10, .int .i64 t6_11, .int .i64 t6_12, .int .i64 t6_13, .int .i64 t6_14, .int .i64 t6_15, .int .i64 t6_16, .int .i64 t6_17, .int .u64 t6_18, .int .i64 t6_19, .int .i64 t6_20, .int .i64 t6_21, .int .i64 t6_22, .int .i64 t6_23]) rfl (hS.get 0 rfl) (hS.get 3 rfl) ((hBw8_w8.block g9 (blk_lt hbxg9)).trans hbxg9) (by kernel_rfl) (by kernel_rfl) (by kernel_rfl)) ?_
        rintro vw10 w10 ⟨rfl, hbxw10, hT⟩
        have hBw10_w := hT.below hBw8_w (Nat.le_trans (hBw3_w).size hgeg9) (hBw8_w).size
        have hBw10_w3 := hT.below hBw8_w3 hgeg9 (hBw8_w3).size
        have hBw10_w10 := Below.refl w10.heap.size w10
        clear hT
        refine list_step rfl (R := fun v w' => Below _ _ w' ∧ (IsV (.int .i64 t6_24)) v w') (does_val (x_assign rfl (hS.get 2 rfl)) rfl) ?_
        rintro vw11 w11 ⟨hb, he⟩
        have hBw11_w := below_step hBw10_w hb
        have hBw11_w3 := below_step hBw10_w3 hb
        have hBw11_w10 := below_step hBw10_w10 hb
        have hBw11_w11 := Below.refl w11.heap.size w11
        obtain rfl : vw11 = .int .i64 t6_24 := he
        replace hS := hS.put (v := .int .i64 t6_24) (d := 4) (by decide) (by rfl)
        refine list_step rfl (R := fun v w' => Below _ _ w' ∧ (IsV (.int .i64 t6_25)) v w') (does_val (x_assign rfl (hS.get 2 rfl)) rfl) ?_
        rintro vw12 w12 ⟨hb, he⟩
        have hBw12_w := below_step hBw11_w hb
        have hBw12_w3 := below_step hBw11_w3 hb
        have hBw12_w10 := below_step hBw11_w10 hb
        have hBw12_w11 := below_step hBw11_w11 hb
        have hBw12_w12 := Below.refl w12.heap.size w12
        obtain rfl : vw12 = .int .i64 t6_25 := he
        replace hS := hS.put (v := .int .i64 t6_25) (d := 5) (by decide) (by rfl)
        refine wpList_nil ?_
        refine hK4 _ _ ?_
        clear hK4 K4
        refine wp_seq_k (fun K13 hK13 => ?_)
        refine reg_seq_tail 7 (N := 38) (bs := [(5, .int .i64 t6_25), (4, .int .i64 t6_24), (3, .pointer (some ⟨g9, 0, none⟩)), (15, .int .i64 t6_25), (14, .int .i64 t6_24), (13, .agg #[.int .i64 t6_1, .int .i64 t6_2, .int .i64 t6_3, .int .i64 t6_4, .int .u64 t6_5, .int .i64 t6_6, .int .i64 t6_7, .int .i64 t6_8, .int .i64 t6_9, .int .u64 t6_10, .int .i64 t6_11, .int .i64 t6_12, .int .i64 t6_13, .int .i64 t6_14, .int .i64 t6_15, .int .i64 t6_16, .int .i64 t6_17, .int .u64 t6_18, .int .i64 t6_19, .int .i64 t6_20, .int .i64 t6_21, .int .i64 t6_22, .int .i64 t6_23]), (2, .bool false), (0, .slice A0 l0.length c0)]) (I := fun x => Below w.heap.size w x ∧ Below w3.heap.size w3 x ∧ Below w10.heap.size w10 x ∧ Below w12.heap.size w12 x) (ps := [IsV (.slice A0 l0.length c0), IsV (.tuple #[.agg #[.int .i64 t14_1, .int .i64 t14_2, .int .i64 t14_3, .int .i64 t14_4, .int .u64 t14_5, .int .i64 t14_6, .int .i64 t14_7, .int .i64 t14_8, .int .i64 t14_9, .int .u64 t14_10, .int .i64 t14_11, .int .i64 t14_12, .int .i64 t14_13, .int .i64 t14_14, .int .i64 t14_15, .int .i64 t14_16, .int .i64 t14_17, .int .u64 t14_18, .int .i64 t14_19, .int .i64 t14_20, .int .i64 t14_21, .int .i64 t14_22, .int .i64 t14_23], .int .i64 t14_24, .int .i64 t14_25]), IsV (.tuple #[.agg #[.int .i64 t14_1, .int .i64 t14_2, .int .i64 t14_3, .int .i64 t14_4, .int .u64 t14_5, .int .i64 t14_6, .int .i64 t14_7, .int .i64 t14_8, .int .i64 t14_9, .int .u64 t14_10, .int .i64 t14_11, .int .i64 t14_12, .int .i64 t14_13, .int .i64 t14_14, .int .i64 t14_15, .int .i64 t14_16, .int .i64 t14_17, .int .u64 t14_18, .int .i64 t14_19, .int .i64 t14_20, .int .i64 t14_21, .int .i64 t14_22, .int .i64 t14_23], .int .i64 t14_24, .int .i64 t14_25]), IsV (.agg #[.int .i64 t14_1, .int .i64 t14_2, .int .i64 t14_3, .int .i64 t14_4, .int .u64 t14_5, .int .i64 t14_6, .int .i64 t14_7, .int .i64 t14_8, .int .i64 t14_9, .int .u64 t14_10, .int .i64 t14_11, .int .i64 t14_12, .int .i64 t14_13, .int .i64 t14_14, .int .i64 t14_15, .int .i64 t14_16, .int .i64 t14_17, .int .u64 t14_18, .int .i64 t14_19, .int .i64 t14_20, .int .i64 t14_21, .int .i64 t14_22, .int .i64 t14_23]), IsV (.int .i64 t14_24), IsV (.int .i64 t14_25), IsB #[.int .i64 0, .int .i64 0, .int .i64 0, .int .i64 0, .int .u64 0, .int .i64 0, .int .i64 0, .int .i64 0, .int .i64 0, .int .u64 0, .int .i64 0, .int .i64 0, .int .i64 0, .int .i64 0, .int .i64 0, .int .i64 0, .int .i64 0, .int .u64 0, .int .i64 0, .int .i64 0, .int .i64 0, .int .i64 0, .int .i64 0] 28 w12.heap.size]) (by kernel_rfl) ?_ ?_ rfl hS ⟨hBw12_w, hBw12_w3, hBw12_w10, hBw12_w12⟩ ?_ ?_
        · exact fun x y hI hb => ⟨below_step hI.1 hb, below_step hI.2.1 hb, below_step hI.2.2.1 hb, below_step hI.2.2.2 hb⟩
        · exact AllStay.cons (Stays.v _) (AllStay.cons (Stays.v _) (AllStay.cons (Stays.v _) (AllStay.cons (Stays.v _) (AllStay.cons (Stays.v _) (AllStay.cons (Stays.v _) (AllStay.cons (Stays.b _ _ _) (AllStay.nil)))))))
        · refine Steps.cons (fun a w hS hI hp => ok_on rfl (does_val (x_move rfl (hS.get 7 rfl)) rfl)) ?_
          refine Steps.cons (fun a w hS hI hp => ok_on rfl (does_call (by kernel_rfl) (ar1 ((hp.get 0 (by rfl) rfl rfl))) ((carillonref06_Get.calls k _ _ l0 t14_1 t14_2 t14_3 t14_4 t14_5 t14_6 t14_7 t14_8 t14_9 t14_10 t14_11 t14_12 t14_13 t14_14 t14_15 t14_16 t14_17 t14_18 t14_19 t14_20 t14_21 t14_22 t14_23 t14_24 t14_25 _ (Kd.C_below HR0 hI.1) HC0 At14).mono fun _ _ h => ⟨_, h.1, h.2, rfl⟩))) ?_
          refine Steps.cons (fun a w hS hI hp => ok_on rfl (does_val (x_move rfl ((hp.get 1 (by rfl) rfl rfl))) rfl)) ?_
          refine Steps.cons (fun a w hS hI hp => ok_on rfl (does_val (x_extract rfl ((hp.get 2 (by rfl) rfl rfl)) rfl) rfl)) ?_
          refine Steps.cons (fun a w hS hI hp => ok_on rfl (does_val (x_extract rfl ((hp.get 2 (by rfl) rfl rfl)) rfl) rfl)) ?_
          refine Steps.cons (fun a w hS hI hp => ok_on rfl (does_val (x_extract rfl ((hp.get 2 (by rfl) rfl rfl)) rfl) rfl)) ?_
          refine Steps.cons (fun a w hS hI hp => ok_on rfl (does_var (x_alloc rfl (by kernel_rfl)) (hI.2.2.2).size)) ?_
          exact Steps.nil
        clear hS
        intro at15 w16 hS hI hp
        have hBw16_w := hI.1
        have hBw16_w3 := hI.2.1
        have hBw16_w10 := hI.2.2.1
        have hBw16_w12 := hI.2.2.2
        have hv19 : sl _ 19 = .agg #[.int .i64 t14_1, .int .i64 t14_2, .int .i64 t14_3, .int .i64 t14_4, .int .u64 t14_5, .int .i64 t14_6, .int .i64 t14_7, .int .i64 t14_8, .int .i64 t14_9, .int .u64 t14_10, .int .i64 t14_11, .int .i64 t14_12, .int .i64 t14_13, .int .i64 t14_14, .int .i64 t14_15, .int .i64 t14_16, .int .i64 t14_17, .int .u64 t14_18, .int .i64 t14_19, .int .i64 t14_20, .int .i64 t14_21, .int .i64 t14_22, .int .i64 t14_23] := hp 3 (by decide)
        have hv20 : sl _ 20 = .int .i64 t14_24 := hp 4 (by decide)
        have hv21 : sl _ 21 = .int .i64 t14_25 := hp 5 (by decide)
        obtain ⟨g17, hv6, hgeg17, hbxg17⟩ := (show IsB _ 28 _ (sl _ 6) _ from hp 6 (by decide))
        have hBw16_w16 := Below.refl w16.heap.size w16
        have hS := hS.cons hv19
        have hS := hS.cons hv20
        have hS := hS.cons hv21
        have hS := hS.cons hv6
        clear hp hI hv19 hv20 hv21 hv6
        show wpList _ _ _ [_, _, _] _ _
        refine list_step rfl (does_storeAll (g := g17) (cs := #[.int .i64 t14_1, .int .i64 t14_2, .int .i64 t14_3, .int .i64 t14_4, .int .u64 t14_5, .int .i64 t14_6, .int .i64 t14_7, .int .i64 t14_8, .int .i64 t14_9, .int .u64 t14_10, .int .i64 t14_11, .int .i64 t14_12, .int .i64 t14_13, .int .i64 t14_14, .int .i64 t14_15, .int .i64 t14_16, .int .i64 t14_17, .int .u64 t14_18, .int .i64 t14_19, .int .i64 t14_20, .int .i64 t14_21, .int .i64 t14_22, .int .i64 t14_23]) rfl (hS.get 0 rfl) (hS.get 3 rfl) ((hBw16_w16.block g17 (blk_lt hbxg17)).trans hbxg17) (by kernel_rfl) (by kernel_rfl) (by kernel_rfl)) ?_
        rintro vw18 w18 ⟨rfl, hbxw18, hT⟩
        have hBw18_w := hT.below hBw16_w (Nat.le_trans (hBw12_w).size hgeg17) (hBw16_w).size
        have hBw18_w3 := hT.below hBw16_w3 (Nat.le_trans (hBw12_w3).size hgeg17) (hBw16_w3).size
        have hBw18_w10 := hT.below hBw16_w10 (Nat.le_trans (hBw12_w10).size hgeg17) (hBw16_w10).size
        have hBw18_w12 := hT.below hBw16_w12 hgeg17 (hBw16_w12).size
        have hBw18_w18 := Below.refl w18.heap.size w18
        clear hT
        refine list_step rfl (R := fun v w' => Below _ _ w' ∧ (IsV (.int .i64 t14_24)) v w') (does_val (x_assign rfl (hS.get 2 rfl)) rfl) ?_
        rintro vw19 w19 ⟨hb, he⟩
        have hBw19_w := below_step hBw18_w hb
        have hBw19_w3 := below_step hBw18_w3 hb
        have hBw19_w10 := below_step hBw18_w10 hb
        have hBw19_w12 := below_step hBw18_w12 hb
        have hBw19_w18 := below_step hBw18_w18 hb
        have hBw19_w19 := Below.refl w19.heap.size w19
        obtain rfl : vw19 = .int .i64 t14_24 := he
        replace hS := hS.put (v := .int .i64 t14_24) (d := 7) (by decide) (by rfl)
        refine list_step rfl (R := fun v w' => Below _ _ w' ∧ (IsV (.int .i64 t14_25)) v w') (does_val (x_assign rfl (hS.get 2 rfl)) rfl) ?_
        rintro vw20 w20 ⟨hb, he⟩
        have hBw20_w := below_step hBw19_w hb
        have hBw20_w3 := below_step hBw19_w3 hb
        have hBw20_w10 := below_step hBw19_w10 hb
        have hBw20_w12 := below_step hBw19_w12 hb
        have hBw20_w18 := below_step hBw19_w18 hb
        have hBw20_w19 := below_step hBw19_w19 hb
        have hBw20_w20 := Below.refl w20.heap.size w20
        obtain rfl : vw20 = .int .i64 t14_25 := he
        replace hS := hS.put (v := .int .i64 t14_25) (d := 8) (by decide) (by rfl)
        refine wpList_nil ?_
        refine hK13 _ _ ?_
        clear hK13 K13
        refine wp_seq_k (fun K21 hK21 => ?_)
        replace hS := (((((((((((((hS.nil).cons (hS.get 13 rfl)).cons (hS.get 11 rfl)).cons (hS.get 10 rfl)).cons (hS.get 9 rfl)).cons (hS.get 8 rfl)).cons (hS.get 7 rfl)).cons (hS.get 6 rfl)).cons (hS.get 5 rfl)).cons (hS.get 4 rfl)).cons (hS.get 3 rfl)).cons (hS.get 2 rfl)).cons (hS.get 1 rfl)).cons (hS.get 0 rfl)
        refine reg_seq (N := 38) (bs := [(8, .int .i64 t14_25), (7, .int .i64 t14_24), (6, .pointer (some ⟨g17, 0, none⟩)), (21, .int .i64 t14_25), (20, .int .i64 t14_24), (19, .agg #[.int .i64 t14_1, .int .i64 t14_2, .int .i64 t14_3, .int .i64 t14_4, .int .u64 t14_5, .int .i64 t14_6, .int .i64 t14_7, .int .i64 t14_8, .int .i64 t14_9, .int .u64 t14_10, .int .i64 t14_11, .int .i64 t14_12, .int .i64 t14_13, .int .i64 t14_14, .int .i64 t14_15, .int .i64 t14_16, .int .i64 t14_17, .int .u64 t14_18, .int .i64 t14_19, .int .i64 t14_20, .int .i64 t14_21, .int .i64 t14_22, .int .i64 t14_23]), (5, .int .i64 t6_25), (4, .int .i64 t6_24), (3, .pointer (some ⟨g9, 0, none⟩)), (15, .int .i64 t6_25), (14, .int .i64 t6_24), (13, .agg #[.int .i64 t6_1, .int .i64 t6_2, .int .i64 t6_3, .int .i64 t6_4, .int .u64 t6_5, .int .i64 t6_6, .int .i64 t6_7, .int .i64 t6_8, .int .i64 t6_9, .int .u64 t6_10, .int .i64 t6_11, .int .i64 t6_12, .int .i64 t6_13, .int .i64 t6_14, .int .i64 t6_15, .int .i64 t6_16, .int .i64 t6_17, .int .u64 t6_18, .int .i64 t6_19, .int .i64 t6_20, .int .i64 t6_21, .int .i64 t6_22, .int .i64 t6_23]), (0, .slice A0 l0.length c0)]) (I := fun x => Below w.heap.size w x ∧ Below w3.heap.size w3 x ∧ Below w10.heap.size w10 x ∧ Below w12.heap.size w12 x ∧ Below w18.heap.size w18 x ∧ Below w20.heap.size w20 x) (ps := [IsV (.agg #[.int .i64 t6_1, .int .i64 t6_2, .int .i64 t6_3, .int .i64 t6_4, .int .u64 t6_5, .int .i64 t6_6, .int .i64 t6_7, .int .i64 t6_8, .int .i64 t6_9, .int .u64 t6_10, .int .i64 t6_11, .int .i64 t6_12, .int .i64 t6_13, .int .i64 t6_14, .int .i64 t6_15, .int .i64 t6_16, .int .i64 t6_17, .int .u64 t6_18, .int .i64 t6_19, .int .i64 t6_20, .int .i64 t6_21, .int .i64 t6_22, .int .i64 t6_23]), IsV (.agg #[.int .i64 t14_1, .int .i64 t14_2, .int .i64 t14_3, .int .i64 t14_4, .int .u64 t14_5, .int .i64 t14_6, .int .i64 t14_7, .int .i64 t14_8, .int .i64 t14_9, .int .u64 t14_10, .int .i64 t14_11, .int .i64 t14_12, .int .i64 t14_13, .int .i64 t14_14, .int .i64 t14_15, .int .i64 t14_16, .int .i64 t14_17, .int .u64 t14_18, .int .i64 t14_19, .int .i64 t14_20, .int .i64 t14_21, .int .i64 t14_22, .int .i64 t14_23]), IsV (.bool ((t6_1 == t14_1) && ((t6_2 == t14_2) && ((t6_3 == t14_3) && ((t6_4 == t14_4) && ((t6_5 == t14_5) && ((t6_6 == t14_6) && ((t6_7 == t14_7) && ((t6_8 == t14_8) && ((t6_9 == t14_9) && ((t6_10 == t14_10) && ((t6_11 == t14_11) && ((t6_12 == t14_12) && ((t6_13 == t14_13) && ((t6_14 == t14_14) && ((t6_15 == t14_15) && ((t6_16 == t14_16) && ((t6_17 == t14_17) && ((t6_18 == t14_18) && ((t6_19 == t14_19) && ((t6_20 == t14_20) && ((t6_21 == t14_21) && ((t6_22 == t14_22) && (t6_23 == t14_23)))))))))))))))))))))))), IsV (.bool ((t6_1 == t14_1) && ((t6_2 == t14_2) && ((t6_3 == t14_3) && ((t6_4 == t14_4) && ((t6_5 == t14_5) && ((t6_6 == t14_6) && ((t6_7 == t14_7) && ((t6_8 == t14_8) && ((t6_9 == t14_9) && ((t6_10 == t14_10) && ((t6_11 == t14_11) && ((t6_12 == t14_12) && ((t6_13 == t14_13) && ((t6_14 == t14_14) && ((t6_15 == t14_15) && ((t6_16 == t14_16) && ((t6_17 == t14_17) && ((t6_18 == t14_18) && ((t6_19 == t14_19) && ((t6_20 == t14_20) && ((t6_21 == t14_21) && ((t6_22 == t14_22) && (t6_23 == t14_23)))))))))))))))))))))))), IsV (.int .i64 t6_24), IsV (.int .i64 t14_24), IsV (.bool (decide (t6_24 = t14_24))), IsV (.bool (decide (t6_24 = t14_24))), IsV (.bool (decide (t6_24 = t14_24))), IsV (.int .i64 t6_25), IsV (.int .i64 t14_25), IsV (.bool (decide (t6_25 = t14_25))), IsV (.bool (decide (t6_25 = t14_25))), IsV (.bool (decide (t6_25 = t14_25))), IsV (.bool t22), IsV (.bool t22), IsV (.bool t22)]) (by kernel_rfl) ?_ ?_ rfl hS ⟨hBw20_w, hBw20_w3, hBw20_w10, hBw20_w12, hBw20_w18, hBw20_w20⟩ ?_ ?_
        · exact fun x y hI hb => ⟨below_step hI.1 hb, below_step hI.2.1 hb, below_step hI.2.2.1 hb, below_step hI.2.2.2.1 hb, below_step hI.2.2.2.2.1 hb, below_step hI.2.2.2.2.2 hb⟩
        · exact AllStay.cons (Stays.v _) (AllStay.cons (Stays.v _) (AllStay.cons (Stays.v _) (AllStay.cons (Stays.v _) (AllStay.cons (Stays.v _) (AllStay.cons (Stays.v _) (AllStay.cons (Stays.v _) (AllStay.cons (Stays.v _) (AllStay.cons (Stays.v _) (AllStay.cons (Stays.v _) (AllStay.cons (Stays.v _) (AllStay.cons (Stays.v _) (AllStay.cons (Stays.v _) (AllStay.cons (Stays.v _) (AllStay.cons (Stays.v _) (AllStay.cons (Stays.v _) (AllStay.cons (Stays.v _) (AllStay.nil)))))))))))))))))
        · refine Steps.cons (fun a w hS hI hp => ok_on rfl (does_loadrow rfl (hS.get 8 rfl) (((hI.2.2.1).block g9 (blk_lt hbxw10)).trans hbxw10) Try.underlying28 rfl (by kernel_rfl) rfl)) ?_
          refine Steps.cons (fun a w hS hI hp => ok_on rfl (does_loadrow rfl (hS.get 2 rfl) (((hI.2.2.2.2.1).block g17 (blk_lt hbxw18)).trans hbxw18) Try.underlying28 rfl (by kernel_rfl) rfl)) ?_
          refine Steps.cons (fun a w hS hI hp => ok_on rfl (does_val (x_bin rfl ((hp.get 0 (by rfl) rfl rfl)) ((hp.get 1 (by rfl) rfl rfl)) (carillonlaw06_HeaderGets.eql28 _ _ _ t6_1 t6_2 t6_3 t6_4 t6_5 t6_6 t6_7 t6_8 t6_9 t6_10 t6_11 t6_12 t6_13 t6_14 t6_15 t6_16 t6_17 t6_18 t6_19 t6_20 t6_21 t6_22 t6_23 t14_1 t14_2 t14_3 t14_4 t14_5 t14_6 t14_7 t14_8 t14_9 t14_10 t14_11 t14_12 t14_13 t14_14 t14_15 t14_16 t14_17 t14_18 t14_19 t14_20 t14_21 t14_22 t14_23)) rfl)) ?_
          refine Steps.cons (fun a w hS hI hp => ok_on rfl (does_val (x_move rfl ((hp.get 2 (by rfl) rfl rfl))) rfl)) ?_
          refine Steps.cons (fun a w hS hI hp => ok_if (d := 25) rfl rfl (by rw [hS.size]; decide) (((hp.get 3 (by rfl) rfl rfl)).trans (bT c1)) (does_val (x_move rfl (hS.get 7 rfl)) rfl)) ?_
          refine Steps.cons (fun a w hS hI hp => ok_if (d := 25) rfl rfl (by rw [hS.size]; decide) (((hp.get 3 (by rfl) rfl rfl)).trans (bT c1)) (does_val (x_move rfl (hS.get 1 rfl)) rfl)) ?_
          refine Steps.cons (fun a w hS hI hp => ok_if (d := 25) rfl rfl (by rw [hS.size]; decide) (((hp.get 3 (by rfl) rfl rfl)).trans (bT c1)) (does_val (x_bin rfl ((hp.get 4 (by rfl) rfl rfl)) ((hp.get 5 (by rfl) rfl rfl)) (b_eql _ _ _ _ _ _)) rfl)) ?_
          refine Steps.cons (fun a w hS hI hp => ok_on rfl (does_val (x_pickT rfl (((hp.get 3 (by rfl) rfl rfl)).trans (bT c1)) ((hp.get 6 (by rfl) rfl rfl))) rfl)) ?_
          refine Steps.cons (fun a w hS hI hp => ok_on rfl (does_val (x_move rfl ((hp.get 7 (by rfl) rfl rfl))) rfl)) ?_
          refine Steps.cons (fun a w hS hI hp => ok_if (d := 30) rfl rfl (by rw [hS.size]; decide) (((hp.get 8 (by rfl) rfl rfl)).trans (bT (decide_eq_true c2))) (does_val (x_move rfl (hS.get 6 rfl)) rfl)) ?_
          refine Steps.cons (fun a w hS hI hp => ok_if (d := 30) rfl rfl (by rw [hS.size]; decide) (((hp.get 8 (by rfl) rfl rfl)).trans (bT (decide_eq_true c2))) (does_val (x_move rfl (hS.get 0 rfl)) rfl)) ?_
          refine Steps.cons (fun a w hS hI hp => ok_if (d := 30) rfl rfl (by rw [hS.size]; decide) (((hp.get 8 (by rfl) rfl rfl)).trans (bT (decide_eq_true c2))) (does_val (x_bin rfl ((hp.get 9 (by rfl) rfl rfl)) ((hp.get 10 (by rfl) rfl rfl)) (b_eql _ _ _ _ _ _)) rfl)) ?_
          refine Steps.cons (fun a w hS hI hp => ok_on rfl (does_val (x_pickT rfl (((hp.get 8 (by rfl) rfl rfl)).trans (bT (decide_eq_true c2))) ((hp.get 11 (by rfl) rfl rfl))) rfl)) ?_
          refine Steps.cons (fun a w hS hI hp => ok_on rfl (does_val (x_move rfl ((hp.get 12 (by rfl) rfl rfl))) rfl)) ?_
          refine Steps.cons (fun a w hS hI hp => ok_if (d := 35) rfl rfl (by rw [hS.size]; decide) (((hp.get 13 (by rfl) rfl rfl)).trans (bT (decide_eq_true c3))) (does_call (by kernel_rfl) rfl ((carillonlaw06_awake.calls k  t22 _  At22).mono fun _ _ h => ⟨_, h.1, h.2, rfl⟩))) ?_
          refine Steps.cons (fun a w hS hI hp => ok_on rfl (does_val (x_pickT rfl (((hp.get 13 (by rfl) rfl rfl)).trans (bT (decide_eq_true c3))) ((hp.get 14 (by rfl) rfl rfl))) rfl)) ?_
          refine Steps.cons (fun a w hS hI hp => ok_on rfl (does_val (x_assign rfl ((hp.get 15 (by rfl) rfl rfl))) rfl)) ?_
          exact Steps.nil
        clear hS
        intro at23 w24 hS hI hp
        have hBw24_w := hI.1
        have hBw24_w3 := hI.2.1
        have hBw24_w10 := hI.2.2.1
        have hBw24_w12 := hI.2.2.2.1
        have hBw24_w18 := hI.2.2.2.2.1
        have hBw24_w20 := hI.2.2.2.2.2
        have hv2 : sl _ 2 = .bool t22 := hp 16 (by decide)
        have hBw24_w24 := Below.refl w24.heap.size w24
        have hS := hS.cons hv2
        clear hp hI hv2
        refine hK21 _ _ ?_
        clear hK21 K21
        refine wp_ret ?_
        (try simp only [Exit.then, Exit.inBlock])
        exact bodyPost_ret (v := .bool true) (by rw [results_tmp rfl]; exact congrArg (Result.ok · _) ((hS.get 0 rfl).trans (congrArg Value.bool hret))) hS.nodef ⟨rfl, hBw24_w⟩
      · rw [if_neg c3] at H
        exact absurd H (by simp)
    · rw [if_neg c2] at H
      exact absurd H (by simp)
  · rw [if_neg c1] at H
    exact absurd H (by simp)

/-- The one pure statement of carillonlaw06_HeaderGets. -/
def carillonlaw06_HeaderGets.Pure : Prop := ∀ (l0 : List Int), l0.length ≤ maxLen → l0.length * 1 ≤ 140737488351232 → (∀ x ∈ l0, (Lit.int .u8 x).wf = true) → ∃ k, carillonlaw06_HeaderGets.f k l0 = some true
theorem carillonlaw06_HeaderGets.walk (P : carillonlaw06_HeaderGets.Pure) (a0 : Option Addr) (len0 cap0 : Nat) (z0 : List Int) (w : World) (w0 : (a0 = none ∧ len0 = 0 ∧ cap0 = 0 ∧ z0 = []) ∨ ∃ x, a0 = some x ∧ len0 ≤ cap0 ∧ cap0 ≤ maxLen ∧ z0.length = cap0 ∧ (∀ i, i < z0.length → w.cell? (x.add i) = some (.int .u8 (z0.getD i 0))) ∧ ∀ n ∈ z0, (Lit.int .u8 n).wf = true) (y0 : len0 * 1 ≤ 140737488351232) :
    Calls Try.prog 6 #[.slice a0 len0 cap0] w fun e w' => e = .returned (.bool true) ∧ Below w.heap.size w w' := by
  obtain ⟨l0, rfl, hr0, hm0, hw0, hc0⟩ := ReadsInt.ofRowC w0
  obtain ⟨k, h⟩ := P l0 hm0 y0 hw0
  refine (carillonlaw06_HeaderGets.calls k _ _ l0 w (Kd.C_of_reads (d := (0 : Int)) (h1 := fun _ => rfl) hr0) hc0 h).mono ?_
  rintro e w' ⟨rfl, hd⟩
  exact ⟨rfl, hd⟩

end Go.Proofs.Ytcflafkafbpibaa.P
