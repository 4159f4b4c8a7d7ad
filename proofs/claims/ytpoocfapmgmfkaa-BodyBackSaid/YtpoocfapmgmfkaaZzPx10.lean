/- Functions and loops of the given program as Lean functions, and that the code comes to what they say: written by this session's own program; Lean checks it. -/
import Derived.Test.YtpoocfapmgmfkaaZzPx0
import Derived.Test.YtpoocfapmgmfkaaZzPx2
import Derived.Test.YtpoocfapmgmfkaaZzPx5
import Derived.Test.YtpoocfapmgmfkaaZzPx6
import Derived.Test.YtpoocfapmgmfkaaZzPx8
import Derived.Test.YtpoocfapmgmfkaaZzPx9
namespace Go.Proofs.Ytpoocfapmgmfkaa.P
open Go.RowKit Go.Proofs.YtpoocfapmgmfkaaW.PrintWords Go.Proofs.YtpoocfapmgmfkaaW.PrintLast Go.Proofs.YtpoocfapmgmfkaaW.PrintMore
attribute [local go_sem] max2_int min2_int max_two min_two max_three min_three max_four min_four   -- for this text's walks alone
set_option linter.unusedVariables false
set_option linter.unusedSimpArgs false
/-! ### carillonlaw07_BodyBack: function 6: by our own printer -/
def carillonlaw07_BodyBack.f (k : Nat) (l0 : List Int) (a1_0 a1_1 a1_2 a1_3 a1_4 a1_5 a1_6 a1_7 a1_8 a1_9 a1_10 a1_11 a1_12 a1_13 a1_14 a1_15 a1_16 a1_17 a1_18 a1_19 a1_20 a1_21 a1_22 : Int) : Option (Bool) := (carillonref07_Check.f k a1_0 a1_1 a1_2 a1_3 a1_4 a1_5 a1_6 a1_7 a1_8 a1_9 a1_10 a1_11 a1_12 a1_13 a1_14 a1_15 a1_16 a1_17 a1_18 a1_19 a1_20 a1_21 a1_22).bind fun t7 => (if t7 = true then ((carillonlaw00_Bytes.f l0).bind fun t11 => ((body_Put.f k t11 a1_0 a1_1 a1_2 a1_3 a1_4 a1_5 a1_6 a1_7 a1_8 a1_9 a1_10 a1_11 a1_12 a1_13 a1_14 a1_15 a1_16 a1_17 a1_18 a1_19 a1_20 a1_21 a1_22).bind fun t12 => ((body_Get.f k a1_0 a1_1 a1_2 a1_3 a1_4 a1_5 a1_6 a1_7 0 0 0 0 0 0 0 0 0 0 0 0 0 0 0 t12.1 (l0.length : Int)).bind fun t22 => (if t12.2 = true then (if t22.2.2.2.2.2.2.2.2.2.2.2.2.2.2.2.2.2.2.2.2.2.2.2.2 = 0 then (if t22.2.2.2.2.2.2.2.2.2.2.2.2.2.2.2.2.2.2.2.2.2.2.2.1 = (t12.1.length : Int) then ((body_Len.f k a1_0).bind fun t32 => (if t22.2.2.2.2.2.2.2.2.2.2.2.2.2.2.2.2.2.2.2.2.2.2.2.1 = (wrap64 ((l0.length : Int) + t32)) then (if ((t22.1 == a1_0) && ((t22.2.1 == a1_1) && ((t22.2.2.1 == a1_2) && ((t22.2.2.2.1 == a1_3) && ((t22.2.2.2.2.1 == a1_4) && ((t22.2.2.2.2.2.1 == a1_5) && ((t22.2.2.2.2.2.2.1 == a1_6) && ((t22.2.2.2.2.2.2.2.1 == a1_7) && ((t22.2.2.2.2.2.2.2.2.1 == a1_8) && ((t22.2.2.2.2.2.2.2.2.2.1 == a1_9) && ((t22.2.2.2.2.2.2.2.2.2.2.1 == a1_10) && ((t22.2.2.2.2.2.2.2.2.2.2.2.1 == a1_11) && ((t22.2.2.2.2.2.2.2.2.2.2.2.2.1 == a1_12) && ((t22.2.2.2.2.2.2.2.2.2.2.2.2.2.1 == a1_13) && ((t22.2.2.2.2.2.2.2.2.2.2.2.2.2.2.1 == a1_14) && ((t22.2.2.2.2.2.2.2.2.2.2.2.2.2.2.2.1 == a1_15) && ((t22.2.2.2.2.2.2.2.2.2.2.2.2.2.2.2.2.1 == a1_16) && ((t22.2.2.2.2.2.2.2.2.2.2.2.2.2.2.2.2.2.1 == a1_17) && ((t22.2.2.2.2.2.2.2.2.2.2.2.2.2.2.2.2.2.2.1 == a1_18) && ((t22.2.2.2.2.2.2.2.2.2.2.2.2.2.2.2.2.2.2.2.1 == a1_19) && ((t22.2.2.2.2.2.2.2.2.2.2.2.2.2.2.2.2.2.2.2.2.1 == a1_20) && ((t22.2.2.2.2.2.2.2.2.2.2.2.2.2.2.2.2.2.2.2.2.2.1 == a1_21) && (t22.2.2.2.2.2.2.2.2.2.2.2.2.2.2.2.2.2.2.2.2.2.2.1 == a1_22))))))))))))))))))))))) = true then ((carillonlaw07_awake.f k ).bind fun t33 => (some t33)) else (some false)) else (some false))) else (some false)) else (some false)) else (some false))))) else ((carillonlaw07_awake.f k ).bind fun t11 => (some t11)))
open Go.Proofs.Ytpoocfapmgmfkaa.E in
set_option maxRecDepth 100000 in
theorem carillonlaw07_BodyBack.eql29 (x y : Operand) (w : World) (a0 a1 a2 a3 a4 a5 a6 a7 a8 a9 a10 a11 a12 a13 a14 a15 a16 a17 a18 a19 a20 a21 a22 b0 b1 b2 b3 b4 b5 b6 b7 b8 b9 b10 b11 b12 b13 b14 b15 b16 b17 b18 b19 b20 b21 b22 : Int) : (do eqGuard .eql 29 x y (.agg #[.int .i64 a0, .int .i64 a1, .int .i64 a2, .int .i64 a3, .int .u64 a4, .int .i64 a5, .int .i64 a6, .int .i64 a7, .int .i64 a8, .int .u64 a9, .int .i64 a10, .int .i64 a11, .int .i64 a12, .int .i64 a13, .int .i64 a14, .int .i64 a15, .int .i64 a16, .int .u64 a17, .int .i64 a18, .int .i64 a19, .int .i64 a20, .int .i64 a21, .int .i64 a22]) (.agg #[.int .i64 b0, .int .i64 b1, .int .i64 b2, .int .i64 b3, .int .u64 b4, .int .i64 b5, .int .i64 b6, .int .i64 b7, .int .i64 b8, .int .u64 b9, .int .i64 b10, .int .i64 b11, .int .i64 b12, .int .i64 b13, .int .i64 b14, .int .i64 b15, .int .i64 b16, .int .u64 b17, .int .i64 b18, .int .i64 b19, .int .i64 b20, .int .i64 b21, .int .i64 b22]); binOp .eql 29 (.agg #[.int .i64 a0, .int .i64 a1, .int .i64 a2, .int .i64 a3, .int .u64 a4, .int .i64 a5, .int .i64 a6, .int .i64 a7, .int .i64 a8, .int .u64 a9, .int .i64 a10, .int .i64 a11, .int .i64 a12, .int .i64 a13, .int .i64 a14, .int .i64 a15, .int .i64 a16, .int .u64 a17, .int .i64 a18, .int .i64 a19, .int .i64 a20, .int .i64 a21, .int .i64 a22]) (.agg #[.int .i64 b0, .int .i64 b1, .int .i64 b2, .int .i64 b3, .int .u64 b4, .int .i64 b5, .int .i64 b6, .int .i64 b7, .int .i64 b8, .int .u64 b9, .int .i64 b10, .int .i64 b11, .int .i64 b12, .int .i64 b13, .int .i64 b14, .int .i64 b15, .int .i64 b16, .int .u64 b17, .int .i64 b18, .int .i64 b19, .int .i64 b20, .int .i64 b21, .int .i64 b22]) : Sem Value).run Try.prog w = .ok (.bool ((a0 == b0) && ((a1 == b1) && ((a2 == b2) && ((a3 == b3) && ((a4 == b4) && ((a5 == b5) && ((a6 == b6) && ((a7 == b7) && ((a8 == b8) && ((a9 == b9) && ((a10 == b10) && ((a11 == b11) && ((a12 == b12) && ((a13 == b13) && ((a14 == b14) && ((a15 == b15) && ((a16 == b16) && ((a17 == b17) && ((a18 == b18) && ((a19 == b19) && ((a20 == b20) && ((a21 == b21) && (a22 == b22)))))))))))))))))))))))) w := by
  have hu3 := Try.underlying3
  have hu23 := Try.underlying23
  have hu25 := Try.underlying25
  have hu27 := Try.underlying27
  have hu29 := Try.underlying29
  conv => lhs; simp [eqGuard, go_sem, hu3, hu23, hu25, hu27, hu29]
  exact ite_and (ite_and (ite_and (ite_and (ite_and (ite_and (ite_and (ite_and (ite_and (ite_and (ite_and (ite_and (ite_and (ite_and (ite_and (ite_and (ite_and (ite_and (ite_and (ite_and (ite_and (ite_and (ite_last))))))))))))))))))))))
abbrev carillonlaw07_BodyBack.v0 (x0 x1 x2 x3 x4 x5 x6 x7 x8 x9 x10 x11 x12 x13 x14 x15 x16 x17 x18 x19 x20 x21 x22 : Int) : Value := .agg #[.int .i64 x0, .int .i64 x1, .int .i64 x2, .int .i64 x3, .int .u64 x4, .int .i64 x5, .int .i64 x6, .int .i64 x7, .int .i64 x8, .int .u64 x9, .int .i64 x10, .int .i64 x11, .int .i64 x12, .int .i64 x13, .int .i64 x14, .int .i64 x15, .int .i64 x16, .int .u64 x17, .int .i64 x18, .int .i64 x19, .int .i64 x20, .int .i64 x21, .int .i64 x22]
abbrev carillonlaw07_BodyBack.c1 (x0 x1 x2 x3 x4 x5 x6 x7 x8 x9 x10 x11 x12 x13 x14 x15 x16 x17 x18 x19 x20 x21 x22 : Int) : Array Value := #[.int .i64 x0, .int .i64 x1, .int .i64 x2, .int .i64 x3, .int .u64 x4, .int .i64 x5, .int .i64 x6, .int .i64 x7, .int .i64 x8, .int .u64 x9, .int .i64 x10, .int .i64 x11, .int .i64 x12, .int .i64 x13, .int .i64 x14, .int .i64 x15, .int .i64 x16, .int .u64 x17, .int .i64 x18, .int .i64 x19, .int .i64 x20, .int .i64 x21, .int .i64 x22]
open Go.Proofs.Ytpoocfapmgmfkaa.E in
set_option maxHeartbeats 60000000 in
set_option maxRecDepth 100000 in
theorem carillonlaw07_BodyBack.calls (k : Nat) (A0 : Option Addr) (cp0 : Nat) (l0 : List Int) (a1_0 a1_1 a1_2 a1_3 a1_4 a1_5 a1_6 a1_7 a1_8 a1_9 a1_10 a1_11 a1_12 a1_13 a1_14 a1_15 a1_16 a1_17 a1_18 a1_19 a1_20 a1_21 a1_22 : Int) (w : World) (HR0 : Kd.C (Kd.int .u8) w A0 l0.length l0) (HC0 : l0.length ≤ cp0) (h : carillonlaw07_BodyBack.f k l0 a1_0 a1_1 a1_2 a1_3 a1_4 a1_5 a1_6 a1_7 a1_8 a1_9 a1_10 a1_11 a1_12 a1_13 a1_14 a1_15 a1_16 a1_17 a1_18 a1_19 a1_20 a1_21 a1_22 = some true) :
    Calls Try.prog 6 #[.slice A0 l0.length cp0, .agg #[.int .i64 a1_0, .int .i64 a1_1, .int .i64 a1_2, .int .i64 a1_3, .int .u64 a1_4, .int .i64 a1_5, .int .i64 a1_6, .int .i64 a1_7, .int .i64 a1_8, .int .u64 a1_9, .int .i64 a1_10, .int .i64 a1_11, .int .i64 a1_12, .int .i64 a1_13, .int .i64 a1_14, .int .i64 a1_15, .int .i64 a1_16, .int .u64 a1_17, .int .i64 a1_18, .int .i64 a1_19, .int .i64 a1_20, .int .i64 a1_21, .int .i64 a1_22]] w fun e w' => e = .returned (.bool true) ∧ Below w.heap.size w w' := by
  have H := h
  clear h
  unfold carillonlaw07_BodyBack.f at H
  obtain ⟨t7, At7, H⟩ := Option.bind_eq_some_iff.mp H
  by_cases c1 : t7 = true
  rotate_left
  · rw [if_neg c1] at H
    obtain ⟨t11, At11, H⟩ := Option.bind_eq_some_iff.mp H
    have hret := Option.some.inj H
    clear H
    refine calls_of_wp (fn := Try.f6) (by kernel_rfl) rfl ?_
    have hS := St.enter #[.slice A0 l0.length cp0, (carillonlaw07_BodyBack.v0 a1_0 a1_1 a1_2 a1_3 a1_4 a1_5 a1_6 a1_7 a1_8 a1_9 a1_10 a1_11 a1_12 a1_13 a1_14 a1_15 a1_16 a1_17 a1_18 a1_19 a1_20 a1_21 a1_22)] 75 (by simp) [(0, .slice A0 l0.length cp0), (1, (carillonlaw07_BodyBack.v0 a1_0 a1_1 a1_2 a1_3 a1_4 a1_5 a1_6 a1_7 a1_8 a1_9 a1_10 a1_11 a1_12 a1_13 a1_14 a1_15 a1_16 a1_17 a1_18 a1_19 a1_20 a1_21 a1_22))] (by simp)
    have HB0 := Below.refl w.heap.size w
    refine wp_seq_k (fun K1 hK1 => ?_)
    refine reg_seq (N := 75) (bs := [(0, .slice A0 l0.length cp0), (1, (carillonlaw07_BodyBack.v0 a1_0 a1_1 a1_2 a1_3 a1_4 a1_5 a1_6 a1_7 a1_8 a1_9 a1_10 a1_11 a1_12 a1_13 a1_14 a1_15 a1_16 a1_17 a1_18 a1_19 a1_20 a1_21 a1_22))]) (I := fun x => Below w.heap.size w x) (ps := [IsB (carillonlaw07_BodyBack.c1 a1_0 a1_1 a1_2 a1_3 a1_4 a1_5 a1_6 a1_7 a1_8 a1_9 a1_10 a1_11 a1_12 a1_13 a1_14 a1_15 a1_16 a1_17 a1_18 a1_19 a1_20 a1_21 a1_22) 29 w.heap.size, VB false]) (by kernel_rfl) ?_ ?_ rfl hS HB0 ?_ ?_
    · exact fun x y hI hb => below_step hI hb
    · exact .cons (Stays.b _ _ _) (.v (.nil))
    · refine .on rfl (fun a w hS hI hp => does_var (x_box rfl (congrArg Value.cells (hS.get 1 rfl))) (hI).size) ?_
      refine .on rfl (fun a w hS hI hp => does_val (x_assign rfl (rfl)) rfl) ?_
      exact .nil
    clear hS
    intro at2 w3 hS hI hp
    have hBw3_w := hI
    replace hS := (hS.nil).cons (hS.get 0 rfl)
    obtain ⟨g4, hv3, hgeg4, hbxg4⟩ := (show IsB _ 29 _ (sl _ 3) _ from hp 0 (by decide))
    have hBw3_w3 := Below.refl w3.heap.size w3
    have hS := hS.cons hv3
    clear hp hI hv3
    refine hK1 _ _ ?_
    (try clear hK1 K1)
    refine wp_seq_k (fun K5 hK5 => ?_)
    refine wp_seq_k (fun K6 hK6 => ?_)
    refine reg_seq (N := 75) (bs := [(3, .pointer (some ⟨g4, 0, none⟩)), (0, .slice A0 l0.length cp0)]) (I := fun x => Below w.heap.size w x ∧ Below w3.heap.size w3 x) (ps := [IsV ((carillonlaw07_BodyBack.v0 a1_0 a1_1 a1_2 a1_3 a1_4 a1_5 a1_6 a1_7 a1_8 a1_9 a1_10 a1_11 a1_12 a1_13 a1_14 a1_15 a1_16 a1_17 a1_18 a1_19 a1_20 a1_21 a1_22)), VB t7, VB (!t7)]) (by kernel_rfl) ?_ ?_ rfl hS ⟨hBw3_w, hBw3_w3⟩ ?_ ?_
    · exact fun x y hI hb => ⟨below_step hI.1 hb, below_step hI.2 hb⟩
    · exact .v (.v (.v (.nil)))
    · refine .on rfl (fun a w hS hI hp => does_loadrow rfl (hS.get 0 rfl) (((hI.2).block g4 (blk_lt hbxg4)).trans hbxg4) Try.underlying29 rfl (by kernel_rfl) rfl) ?_
      refine .on rfl (fun a w hS hI hp => does_call (by kernel_rfl) (ar1 (hp.V 0 rfl rfl)) ((carillonref07_Check.calls k a1_0 a1_1 a1_2 a1_3 a1_4 a1_5 a1_6 a1_7 a1_8 a1_9 a1_10 a1_11 a1_12 a1_13 a1_14 a1_15 a1_16 a1_17 a1_18 a1_19 a1_20 a1_21 a1_22 t7 _  At7).mono fun _ _ h => ⟨_, h.1, h.2, rfl⟩)) ?_
      refine .on rfl (fun a w hS hI hp => does_val (x_not rfl (hp.V 1 rfl rfl)) rfl) ?_
      exact .nil
    clear hS
    intro at8 w9 hS hI hp
    have hBw9_w := hI.1
    have hBw9_w3 := hI.2
    have hv13 : sl _ 13 = .bool (!t7) := hp 2 (by decide)
    have hBw9_w9 := Below.refl w9.heap.size w9
    have hS := hS.cons hv13
    clear hp hI hv13
    refine hK6 _ _ ?_
    (try clear hK6 K6)
    refine wp_cond_true ((hS.get 0 rfl).trans (bT (congrArg (!·) (Bool.eq_false_iff.2 c1)))) ?_
    refine wp_seq_k (fun K10 hK10 => ?_)
    refine reg_seq (N := 75) (bs := [(13, .bool (!t7)), (3, .pointer (some ⟨g4, 0, none⟩)), (0, .slice A0 l0.length cp0)]) (I := fun x => Below w.heap.size w x ∧ Below w3.heap.size w3 x ∧ Below w9.heap.size w9 x) (ps := [VB t11, VB t11]) (by kernel_rfl) ?_ ?_ rfl hS ⟨hBw9_w, hBw9_w3, hBw9_w9⟩ ?_ ?_
    · exact fun x y hI hb => ⟨below_step hI.1 hb, below_step hI.2.1 hb, below_step hI.2.2 hb⟩
    · exact .v (.v (.nil))
    · refine .on rfl (fun a w hS hI hp => does_call (by kernel_rfl) rfl ((carillonlaw07_awake.calls k  t11 _  At11).mono fun _ _ h => ⟨_, h.1, h.2, rfl⟩)) ?_
      refine .asg 0 rfl rfl rfl rfl ?_
      exact .nil
    clear hS
    intro at12 w13 hS hI hp
    have hBw13_w := hI.1
    have hBw13_w3 := hI.2.1
    have hBw13_w9 := hI.2.2
    replace hS := hS.nil
    have hv4 : sl _ 4 = .bool t11 := hp 1 (by decide)
    have hBw13_w13 := Below.refl w13.heap.size w13
    have hS := hS.cons hv4
    clear hp hI hv4
    refine hK10 _ _ ?_
    (try clear hK10 K10)
    refine wp_ret ?_
    (try simp only [Exit.then, Exit.inBlock, Exit.jump, Exit.noGoto])
    exact bodyPost_ret (v := .bool true) (by rw [results_tmp rfl]; exact congrArg (Result.ok · _) ((hS.get 0 rfl).trans (congrArg Value.bool hret))) hS.nodef ⟨rfl, hBw13_w⟩
  rw [if_pos c1] at H
  obtain ⟨t11, At11, H⟩ := Option.bind_eq_some_iff.mp H
  obtain ⟨t12, At12, H⟩ := Option.bind_eq_some_iff.mp H
  obtain ⟨t12_1, t12_2⟩ := t12
  (try dsimp only at H)
  obtain ⟨t22, At22, H⟩ := Option.bind_eq_some_iff.mp H
  obtain ⟨t22_1, t22_2, t22_3, t22_4, t22_5, t22_6, t22_7, t22_8, t22_9, t22_10, t22_11, t22_12, t22_13, t22_14, t22_15, t22_16, t22_17, t22_18, t22_19, t22_20, t22_21, t22_22, t22_23, t22_24, t22_25⟩ := t22
  (try dsimp only at H)
  by_cases c2 : t12_2 = true
  rotate_left
  · rw [if_neg c2] at H
    exact absurd H (by simp)
  rw [if_pos c2] at H
  by_cases c3 : t22_25 = 0
  rotate_left
  · rw [if_neg c3] at H
    exact absurd H (by simp)
  rw [if_pos c3] at H
  by_cases c4 : t22_24 = (t12_1.length : Int)
  rotate_left
  · rw [if_neg c4] at H
    exact absurd H (by simp)
  rw [if_pos c4] at H
  obtain ⟨t32, At32, H⟩ := Option.bind_eq_some_iff.mp H
  by_cases c5 : t22_24 = (wrap64 ((l0.length : Int) + t32))
  rotate_left
  · rw [if_neg c5] at H
    exact absurd H (by simp)
  rw [if_pos c5] at H
  by_cases c6 : ((t22_1 == a1_0) && ((t22_2 == a1_1) && ((t22_3 == a1_2) && ((t22_4 == a1_3) && ((t22_5 == a1_4) && ((t22_6 == a1_5) && ((t22_7 == a1_6) && ((t22_8 == a1_7) && ((t22_9 == a1_8) && ((t22_10 == a1_9) && ((t22_11 == a1_10) && ((t22_12 == a1_11) && ((t22_13 == a1_12) && ((t22_14 == a1_13) && ((t22_15 == a1_14) && ((t22_16 == a1_15) && ((t22_17 == a1_16) && ((t22_18 == a1_17) && ((t22_19 == a1_18) && ((t22_20 == a1_19) && ((t22_21 == a1_20) && ((t22_22 == a1_21) && (t22_23 == a1_22))))))))))))))))))))))) = true
  rotate_left
  · rw [if_neg c6] at H
    exact absurd H (by simp)
  rw [if_pos c6] at H
  obtain ⟨t33, At33, H⟩ := Option.bind_eq_some_iff.mp H
  have hret := Option.some.inj H
  clear H
  refine calls_of_wp (fn := Try.f6) (by kernel_rfl) rfl ?_
  have hS := St.enter #[.slice A0 l0.length cp0, (carillonlaw07_BodyBack.v0 a1_0 a1_1 a1_2 a1_3 a1_4 a1_5 a1_6 a1_7 a1_8 a1_9 a1_10 a1_11 a1_12 a1_13 a1_14 a1_15 a1_16 a1_17 a1_18 a1_19 a1_20 a1_21 a1_22)] 75 (by simp) [(0, .slice A0 l0.length cp0), (1, (carillonlaw07_BodyBack.v0 a1_0 a1_1 a1_2 a1_3 a1_4 a1_5 a1_6 a1_7 a1_8 a1_9 a1_10 a1_11 a1_12 a1_13 a1_14 a1_15 a1_16 a1_17 a1_18 a1_19 a1_20 a1_21 a1_22))] (by simp)
  have HB0 := Below.refl w.heap.size w
  refine wp_seq_k (fun K1 hK1 => ?_)
  refine reg_seq (N := 75) (bs := [(0, .slice A0 l0.length cp0), (1, (carillonlaw07_BodyBack.v0 a1_0 a1_1 a1_2 a1_3 a1_4 a1_5 a1_6 a1_7 a1_8 a1_9 a1_10 a1_11 a1_12 a1_13 a1_14 a1_15 a1_16 a1_17 a1_18 a1_19 a1_20 a1_21 a1_22))]) (I := fun x => Below w.heap.size w x) (ps := [IsB (carillonlaw07_BodyBack.c1 a1_0 a1_1 a1_2 a1_3 a1_4 a1_5 a1_6 a1_7 a1_8 a1_9 a1_10 a1_11 a1_12 a1_13 a1_14 a1_15 a1_16 a1_17 a1_18 a1_19 a1_20 a1_21 a1_22) 29 w.heap.size, VB false]) (by kernel_rfl) ?_ ?_ rfl hS HB0 ?_ ?_
  · exact fun x y hI hb => below_step hI hb
  · exact .cons (Stays.b _ _ _) (.v (.nil))
  · refine .on rfl (fun a w hS hI hp => does_var (x_box rfl (congrArg Value.cells (hS.get 1 rfl))) (hI).size) ?_
    refine .on rfl (fun a w hS hI hp => does_val (x_assign rfl (rfl)) rfl) ?_
    exact .nil
  clear hS
  intro at2 w3 hS hI hp
  have hBw3_w := hI
  replace hS := (hS.nil).cons (hS.get 0 rfl)
  obtain ⟨g4, hv3, hgeg4, hbxg4⟩ := (show IsB _ 29 _ (sl _ 3) _ from hp 0 (by decide))
  have hBw3_w3 := Below.refl w3.heap.size w3
  have hS := hS.cons hv3
  clear hp hI hv3
  refine hK1 _ _ ?_
  (try clear hK1 K1)
  refine wp_seq_k (fun K5 hK5 => ?_)
  refine wp_seq_k (fun K6 hK6 => ?_)
  refine reg_seq (N := 75) (bs := [(3, .pointer (some ⟨g4, 0, none⟩)), (0, .slice A0 l0.length cp0)]) (I := fun x => Below w.heap.size w x ∧ Below w3.heap.size w3 x) (ps := [IsV ((carillonlaw07_BodyBack.v0 a1_0 a1_1 a1_2 a1_3 a1_4 a1_5 a1_6 a1_7 a1_8 a1_9 a1_10 a1_11 a1_12 a1_13 a1_14 a1_15 a1_16 a1_17 a1_18 a1_19 a1_20 a1_21 a1_22)), VB t7, VB (!t7)]) (by kernel_rfl) ?_ ?_ rfl hS ⟨hBw3_w, hBw3_w3⟩ ?_ ?_
  · exact fun x y hI hb => ⟨below_step hI.1 hb, below_step hI.2 hb⟩
  · exact .v (.v (.v (.nil)))
  · refine .on rfl (fun a w hS hI hp => does_loadrow rfl (hS.get 0 rfl) (((hI.2).block g4 (blk_lt hbxg4)).trans hbxg4) Try.underlying29 rfl (by kernel_rfl) rfl) ?_
    refine .on rfl (fun a w hS hI hp => does_call (by kernel_rfl) (ar1 (hp.V 0 rfl rfl)) ((carillonref07_Check.calls k a1_0 a1_1 a1_2 a1_3 a1_4 a1_5 a1_6 a1_7 a1_8 a1_9 a1_10 a1_11 a1_12 a1_13 a1_14 a1_15 a1_16 a1_17 a1_18 a1_19 a1_20 a1_21 a1_22 t7 _  At7).mono fun _ _ h => ⟨_, h.1, h.2, rfl⟩)) ?_
    refine .on rfl (fun a w hS hI hp => does_val (x_not rfl (hp.V 1 rfl rfl)) rfl) ?_
    exact .nil
  clear hS
  intro at8 w9 hS hI hp
  have hBw9_w := hI.1
  have hBw9_w3 := hI.2
  have hv13 : sl _ 13 = .bool (!t7) := hp 2 (by decide)
  have hBw9_w9 := Below.refl w9.heap.size w9
  have hS := hS.cons hv13
  clear hp hI hv13
  refine hK6 _ _ ?_
  (try clear hK6 K6)
  refine wp_cond_false ((hS.get 0 rfl).trans (bF (congrArg (!·) c1))) ?_
  refine wp_skip ?_
  refine hK5 _ _ ?_
  (try clear hK5 K5)
  refine wp_seq_k (fun K10 hK10 => ?_)
  refine reg_any (N := 75) (bs := [(13, .bool (!t7)), (3, .pointer (some ⟨g4, 0, none⟩)), (0, .slice A0 l0.length cp0)]) (I := fun x => Below w.heap.size w x ∧ Below w3.heap.size w3 x ∧ Below w9.heap.size w9 x) (ps := [IsV (.slice A0 l0.length cp0), IsR (Kd.int .u8) 5 w9.heap.size t11, IsV ((carillonlaw07_BodyBack.v0 a1_0 a1_1 a1_2 a1_3 a1_4 a1_5 a1_6 a1_7 a1_8 a1_9 a1_10 a1_11 a1_12 a1_13 a1_14 a1_15 a1_16 a1_17 a1_18 a1_19 a1_20 a1_21 a1_22)), IsT (fun v0_ => #[v0_, .bool t12_2]) (IsC (Kd.int .u8) t12_1), IsT (fun v0_ => #[v0_, .bool t12_2]) (IsC (Kd.int .u8) t12_1), IsC (Kd.int .u8) t12_1, VB t12_2, IsC (Kd.int .u8) t12_1, VB t12_2]) (by kernel_rfl) (by kernel_rfl) ?_ ?_ rfl hS ⟨hBw9_w, hBw9_w3, hBw9_w9⟩ ?_ ?_
  · exact fun x y hI hb => ⟨below_step hI.1 hb, below_step hI.2.1 hb, below_step hI.2.2 hb⟩
  · exact .v (.cons (Stays.r _ _ _ _) (.v (.cons (Stays.t _ (Stays.c _ _)) (.cons (Stays.t _ (Stays.c _ _)) (.cons (Stays.c _ _) (.v (.cons (Stays.c _ _) (.v (.nil)))))))))
  · refine .ms 2 rfl rfl rfl ?_
    refine .on rfl (fun a w hS hI hp => does_call (by kernel_rfl) (ar1 (hp.V 0 rfl rfl)) ((carillonlaw00_Bytes.calls _ _ l0 t11 _ (Kd.C_below HR0 hI.1) HC0 At11).mono fun _ _ h => h.elim fun v0 h => ⟨v0, h.1, h.2.2, Kd.R_lower h.2.1 hI.2.2.size⟩)) ?_
    refine .on rfl (fun a w hS hI hp => does_loadrow rfl (hS.get 1 rfl) (((hI.2.1).block g4 (blk_lt hbxg4)).trans hbxg4) Try.underlying29 rfl (by kernel_rfl) rfl) ?_
    refine .on rfl (fun a w hS hI hp => (IsC.of_r (hp.V 1 rfl rfl)).elim fun A_ h_ => h_.elim fun c_ h_ => h_.elim fun hv_ h_ => h_.elim fun hl_ hc_ => does_call (by kernel_rfl) (ar2 (hv_) (hp.V 2 rfl rfl)) ((body_Put.calls k _ _ t11 a1_0 a1_1 a1_2 a1_3 a1_4 a1_5 a1_6 a1_7 a1_8 a1_9 a1_10 a1_11 a1_12 a1_13 a1_14 a1_15 a1_16 a1_17 a1_18 a1_19 a1_20 a1_21 a1_22 t12_1 t12_2 _ hc_ hl_ At12).mono fun _ _ h => h.elim fun v0 h => ⟨_, h.1, h.2.2, v0, rfl, h.2.1⟩)) ?_
    refine .on rfl (fun a w hS hI hp => does_val (x_move rfl rfl) (hp.V 3 rfl rfl)) ?_
    refine .on rfl (fun a w hS hI hp => (hp.V 4 rfl rfl).elim fun v0 h0 => does_val (x_extract rfl h0.1 rfl) h0.2) ?_
    refine .on rfl (fun a w hS hI hp => (hp.V 4 rfl rfl).elim fun v0 h0 => does_val (x_extract rfl h0.1 rfl) rfl) ?_
    refine .on rfl (fun a w hS hI hp => does_val (x_assign rfl rfl) (hp.V 5 rfl rfl)) ?_
    refine .asg 6 rfl rfl rfl rfl ?_
    exact .nil
  clear hS
  intro at13 w14 hS hI hp
  have hBw14_w := hI.1
  have hBw14_w3 := hI.2.1
  have hBw14_w9 := hI.2.2
  replace hS := ((hS.nil).cons (hS.get 2 rfl)).cons (hS.get 1 rfl)
  obtain ⟨A15, C15, hv5, hl15, hc15⟩ := (show IsC (Kd.int .u8) t12_1 (sl _ 5) w14 from hp 7 (by decide))
  have hv6 : sl _ 6 = .bool t12_2 := hp 8 (by decide)
  have hBw14_w14 := Below.refl w14.heap.size w14
  have hS := hS.cons hv5
  have hS := hS.cons hv6
  clear hp hI hv5 hv6
  refine hK10 _ _ ?_
  (try clear hK10 K10)
  refine wp_seq_k (fun K16 hK16 => ?_)
  refine reg_seq_tail 16 (N := 75) (bs := [(6, .bool t12_2), (5, .slice A15 t12_1.length C15), (3, .pointer (some ⟨g4, 0, none⟩)), (0, .slice A0 l0.length cp0)]) (I := fun x => Below w.heap.size w x ∧ Below w3.heap.size w3 x ∧ Below w14.heap.size w14 x) (ps := [VP g4 0, VI a1_0, VP g4 1, VI a1_1, VP g4 2, VI a1_2, VP g4 3, VI a1_3, VP g4 4, IsV (.agg #[.int .u64 a1_4, .int .i64 a1_5]), VP g4 6, VI a1_6, VP g4 7, VI a1_7, IsV ((carillonlaw07_BodyBack.v0 a1_0 a1_1 a1_2 a1_3 a1_4 a1_5 a1_6 a1_7 0 0 0 0 0 0 0 0 0 0 0 0 0 0 0)), IsB (carillonlaw07_BodyBack.c1 0 0 0 0 0 0 0 0 0 0 0 0 0 0 0 0 0 0 0 0 0 0 0) 29 w14.heap.size]) (by kernel_rfl) ?_ ?_ rfl hS ⟨hBw14_w, hBw14_w3, hBw14_w14⟩ ?_ ?_
  · exact fun x y hI hb => ⟨below_step hI.1 hb, below_step hI.2.1 hb, below_step hI.2.2 hb⟩
  · exact .v (.v (.v (.v (.v (.v (.v (.v (.v (.v (.v (.v (.v (.v (.v (.cons (Stays.b _ _ _) (.nil))))))))))))))))
  · refine .on rfl (fun a w hS hI hp => does_val (x_fieldE (b := 0) rfl (hS.get 2 rfl) Try.underlying29 rfl rfl (by kernel_rfl)) rfl) ?_
    refine .on rfl (fun a w hS hI hp => does_val (x_load1 (d := .int .i64) rfl (hp.V 0 rfl rfl) (by kernel_rfl) rfl ((blk_cell (((hI.2.1).block g4 (blk_lt hbxg4)).trans hbxg4) 0).trans rfl)) rfl) ?_
    refine .on rfl (fun a w hS hI hp => does_val (x_fieldE (b := 0) rfl (hS.get 2 rfl) Try.underlying29 rfl rfl (by kernel_rfl)) rfl) ?_
    refine .on rfl (fun a w hS hI hp => does_val (x_load1 (d := .int .i64) rfl (hp.V 2 rfl rfl) (by kernel_rfl) rfl ((blk_cell (((hI.2.1).block g4 (blk_lt hbxg4)).trans hbxg4) 1).trans rfl)) rfl) ?_
    refine .on rfl (fun a w hS hI hp => does_val (x_fieldE (b := 0) rfl (hS.get 2 rfl) Try.underlying29 rfl rfl (by kernel_rfl)) rfl) ?_
    refine .on rfl (fun a w hS hI hp => does_val (x_load1 (d := .int .i64) rfl (hp.V 4 rfl rfl) (by kernel_rfl) rfl ((blk_cell (((hI.2.1).block g4 (blk_lt hbxg4)).trans hbxg4) 2).trans rfl)) rfl) ?_
    refine .on rfl (fun a w hS hI hp => does_val (x_fieldE (b := 0) rfl (hS.get 2 rfl) Try.underlying29 rfl rfl (by kernel_rfl)) rfl) ?_
    refine .on rfl (fun a w hS hI hp => does_val (x_load1 (d := .int .i64) rfl (hp.V 6 rfl rfl) (by kernel_rfl) rfl ((blk_cell (((hI.2.1).block g4 (blk_lt hbxg4)).trans hbxg4) 3).trans rfl)) rfl) ?_
    refine .on rfl (fun a w hS hI hp => does_val (x_fieldE (b := 0) rfl (hS.get 2 rfl) Try.underlying29 rfl rfl (by kernel_rfl)) rfl) ?_
    refine .on rfl (fun a w hS hI hp => does_loadmid (cs := [.int .u64 a1_4, .int .i64 a1_5]) rfl (hp.V 8 rfl rfl) (((hI.2.1).block g4 (blk_lt hbxg4)).trans hbxg4) rfl Try.underlying25 rfl (by kernel_rfl) rfl) ?_
    refine .on rfl (fun a w hS hI hp => does_val (x_fieldE (b := 0) rfl (hS.get 2 rfl) Try.underlying29 rfl rfl (by kernel_rfl)) rfl) ?_
    refine .on rfl (fun a w hS hI hp => does_val (x_load1 (d := .int .i64) rfl (hp.V 10 rfl rfl) (by kernel_rfl) rfl ((blk_cell (((hI.2.1).block g4 (blk_lt hbxg4)).trans hbxg4) 6).trans rfl)) rfl) ?_
    refine .on rfl (fun a w hS hI hp => does_val (x_fieldE (b := 0) rfl (hS.get 2 rfl) Try.underlying29 rfl rfl (by kernel_rfl)) rfl) ?_
    refine .on rfl (fun a w hS hI hp => does_val (x_load1 (d := .int .i64) rfl (hp.V 12 rfl rfl) (by kernel_rfl) rfl ((blk_cell (((hI.2.1).block g4 (blk_lt hbxg4)).trans hbxg4) 7).trans rfl)) rfl) ?_
    refine .on rfl (fun a w hS hI hp => does_val (x_build (vs := [(0, .int .i64 a1_0), (1, .int .i64 a1_1), (2, .int .i64 a1_2), (3, .int .i64 a1_3), (4, .agg #[.int .u64 a1_4, .int .i64 a1_5]), (5, .int .i64 a1_6), (6, .int .i64 a1_7)]) rfl (by rw [Array.toList_map]; exact (show [(0, a.eval (.tmp 23)), (1, a.eval (.tmp 25)), (2, a.eval (.tmp 27)), (3, a.eval (.tmp 29)), (4, a.eval (.tmp 31)), (5, a.eval (.tmp 33)), (6, a.eval (.tmp 35))] = _ from (li_cons (hp.V 1 rfl rfl) (li_cons (hp.V 3 rfl rfl) (li_cons (hp.V 5 rfl rfl) (li_cons (hp.V 7 rfl rfl) (li_cons (hp.V 9 rfl rfl) (li_cons (hp.V 11 rfl rfl) (li_cons (hp.V 13 rfl rfl) rfl))))))))) (by kernel_rfl)) rfl) ?_
    refine .on rfl (fun a w hS hI hp => does_var (x_alloc rfl (by kernel_rfl)) (hI.2.2).size) ?_
    exact .nil
  clear hS
  intro at17 w18 hS hI hp
  have hBw18_w := hI.1
  have hBw18_w3 := hI.2.1
  have hBw18_w14 := hI.2.2
  have hv36 : sl _ 36 = (carillonlaw07_BodyBack.v0 a1_0 a1_1 a1_2 a1_3 a1_4 a1_5 a1_6 a1_7 0 0 0 0 0 0 0 0 0 0 0 0 0 0 0) := hp 14 (by decide)
  obtain ⟨g19, hv7, hgeg19, hbxg19⟩ := (show IsB _ 29 _ (sl _ 7) _ from hp 15 (by decide))
  have hBw18_w18 := Below.refl w18.heap.size w18
  have hS := hS.cons hv36
  have hS := hS.cons hv7
  clear hp hI hv36 hv7
  show wpList _ _ _ [_] _ _
  refine list_step rfl (does_storeAll (g := g19) (cs := (carillonlaw07_BodyBack.c1 a1_0 a1_1 a1_2 a1_3 a1_4 a1_5 a1_6 a1_7 0 0 0 0 0 0 0 0 0 0 0 0 0 0 0)) rfl (hS.get 0 rfl) (hS.get 1 rfl) ((hBw18_w18.block g19 (blk_lt hbxg19)).trans hbxg19) (by kernel_rfl) (by kernel_rfl) (by kernel_rfl)) ?_
  rintro vw20 w20 ⟨rfl, hbxw20, hT⟩
  have hBw20_w := hT.below hBw18_w (Nat.le_trans (hBw14_w).size hgeg19) (hBw18_w).size
  have hBw20_w3 := hT.below hBw18_w3 (Nat.le_trans (hBw14_w3).size hgeg19) (hBw18_w3).size
  have hBw20_w14 := hT.below hBw18_w14 hgeg19 (hBw18_w14).size
  have hBw20_w20 := Below.refl w20.heap.size w20
  clear hT
  refine wpList_nil ?_
  refine hK16 _ _ ?_
  (try clear hK16 K16)
  refine wp_seq_k (fun K21 hK21 => ?_)
  refine reg_seq_tail 10 (N := 75) (bs := [(7, .pointer (some ⟨g19, 0, none⟩)), (36, (carillonlaw07_BodyBack.v0 a1_0 a1_1 a1_2 a1_3 a1_4 a1_5 a1_6 a1_7 0 0 0 0 0 0 0 0 0 0 0 0 0 0 0)), (6, .bool t12_2), (5, .slice A15 t12_1.length C15), (3, .pointer (some ⟨g4, 0, none⟩)), (0, .slice A0 l0.length cp0)]) (I := fun x => Below w.heap.size w x ∧ Below w3.heap.size w3 x ∧ Below w14.heap.size w14 x ∧ Below w20.heap.size w20 x) (ps := [IsV ((carillonlaw07_BodyBack.v0 a1_0 a1_1 a1_2 a1_3 a1_4 a1_5 a1_6 a1_7 0 0 0 0 0 0 0 0 0 0 0 0 0 0 0)), IsV (.slice A15 t12_1.length C15), IsV (.slice A0 l0.length cp0), VI (l0.length : Int), IsV (.tuple #[(carillonlaw07_BodyBack.v0 t22_1 t22_2 t22_3 t22_4 t22_5 t22_6 t22_7 t22_8 t22_9 t22_10 t22_11 t22_12 t22_13 t22_14 t22_15 t22_16 t22_17 t22_18 t22_19 t22_20 t22_21 t22_22 t22_23), .int .i64 t22_24, .int .i64 t22_25]), IsV (.tuple #[(carillonlaw07_BodyBack.v0 t22_1 t22_2 t22_3 t22_4 t22_5 t22_6 t22_7 t22_8 t22_9 t22_10 t22_11 t22_12 t22_13 t22_14 t22_15 t22_16 t22_17 t22_18 t22_19 t22_20 t22_21 t22_22 t22_23), .int .i64 t22_24, .int .i64 t22_25]), IsV ((carillonlaw07_BodyBack.v0 t22_1 t22_2 t22_3 t22_4 t22_5 t22_6 t22_7 t22_8 t22_9 t22_10 t22_11 t22_12 t22_13 t22_14 t22_15 t22_16 t22_17 t22_18 t22_19 t22_20 t22_21 t22_22 t22_23)), VI t22_24, VI t22_25, IsB (carillonlaw07_BodyBack.c1 0 0 0 0 0 0 0 0 0 0 0 0 0 0 0 0 0 0 0 0 0 0 0) 29 w20.heap.size]) (by kernel_rfl) ?_ ?_ rfl hS ⟨hBw20_w, hBw20_w3, hBw20_w14, hBw20_w20⟩ ?_ ?_
  · exact fun x y hI hb => ⟨below_step hI.1 hb, below_step hI.2.1 hb, below_step hI.2.2.1 hb, below_step hI.2.2.2 hb⟩
  · exact .v (.v (.v (.v (.v (.v (.v (.v (.v (.cons (Stays.b _ _ _) (.nil))))))))))
  · refine .on rfl (fun a w hS hI hp => does_loadrow rfl (hS.get 0 rfl) (((hI.2.2.2).block g19 (blk_lt hbxw20)).trans hbxw20) Try.underlying29 rfl (by kernel_rfl) rfl) ?_
    refine .ms 3 rfl rfl rfl ?_
    refine .ms 5 rfl rfl rfl ?_
    refine .on rfl (fun a w hS hI hp => does_val (x_len (e := 5) rfl (by kernel_rfl) (hp.V 2 rfl rfl)) rfl) ?_
    refine .on rfl (fun a w hS hI hp => does_call (by kernel_rfl) (ar3 (hp.V 0 rfl rfl) (hp.V 1 rfl rfl) (hp.V 3 rfl rfl)) ((body_Get.calls k a1_0 a1_1 a1_2 a1_3 a1_4 a1_5 a1_6 a1_7 0 0 0 0 0 0 0 0 0 0 0 0 0 0 0 _ _ t12_1 (l0.length : Int) t22_1 t22_2 t22_3 t22_4 t22_5 t22_6 t22_7 t22_8 t22_9 t22_10 t22_11 t22_12 t22_13 t22_14 t22_15 t22_16 t22_17 t22_18 t22_19 t22_20 t22_21 t22_22 t22_23 t22_24 t22_25 _ (Kd.C_below hc15 hI.2.2.1) hl15 At22).mono fun _ _ h => ⟨_, h.1, h.2, rfl⟩)) ?_
    refine .mv 4 rfl rfl rfl rfl ?_
    iterate 3 refine .on rfl (fun a w hS hI hp => does_val (x_extract rfl (hp.V 5 rfl rfl) rfl) rfl) ?_
    refine .on rfl (fun a w hS hI hp => does_var (x_alloc rfl (by kernel_rfl)) (hI.2.2.2).size) ?_
    exact .nil
  clear hS
  intro at23 w24 hS hI hp
  have hBw24_w := hI.1
  have hBw24_w3 := hI.2.1
  have hBw24_w14 := hI.2.2.1
  have hBw24_w20 := hI.2.2.2
  replace hS := ((((hS.nil).cons (hS.get 5 rfl)).cons (hS.get 4 rfl)).cons (hS.get 3 rfl)).cons (hS.get 2 rfl)
  have hv43 : sl _ 43 = (carillonlaw07_BodyBack.v0 t22_1 t22_2 t22_3 t22_4 t22_5 t22_6 t22_7 t22_8 t22_9 t22_10 t22_11 t22_12 t22_13 t22_14 t22_15 t22_16 t22_17 t22_18 t22_19 t22_20 t22_21 t22_22 t22_23) := hp 6 (by decide)
  have hv44 : sl _ 44 = .int .i64 t22_24 := hp 7 (by decide)
  have hv45 : sl _ 45 = .int .i64 t22_25 := hp 8 (by decide)
  obtain ⟨g25, hv8, hgeg25, hbxg25⟩ := (show IsB _ 29 _ (sl _ 8) _ from hp 9 (by decide))
  have hBw24_w24 := Below.refl w24.heap.size w24
  have hS := hS.cons hv43
  have hS := hS.cons hv44
  have hS := hS.cons hv45
  have hS := hS.cons hv8
  clear hp hI hv43 hv44 hv45 hv8
  show wpList _ _ _ [_, _, _] _ _
  refine list_step rfl (does_storeAll (g := g25) (cs := (carillonlaw07_BodyBack.c1 t22_1 t22_2 t22_3 t22_4 t22_5 t22_6 t22_7 t22_8 t22_9 t22_10 t22_11 t22_12 t22_13 t22_14 t22_15 t22_16 t22_17 t22_18 t22_19 t22_20 t22_21 t22_22 t22_23)) rfl (hS.get 0 rfl) (hS.get 3 rfl) ((hBw24_w24.block g25 (blk_lt hbxg25)).trans hbxg25) (by kernel_rfl) (by kernel_rfl) (by kernel_rfl)) ?_
  rintro vw26 w26 ⟨rfl, hbxw26, hT⟩
  have hBw26_w := hT.below hBw24_w (Nat.le_trans (hBw20_w).size hgeg25) (hBw24_w).size
  have hBw26_w3 := hT.below hBw24_w3 (Nat.le_trans (hBw20_w3).size hgeg25) (hBw24_w3).size
  have hBw26_w14 := hT.below hBw24_w14 (Nat.le_trans (hBw20_w14).size hgeg25) (hBw24_w14).size
  have hBw26_w20 := hT.below hBw24_w20 hgeg25 (hBw24_w20).size
  have hBw26_w26 := Below.refl w26.heap.size w26
  clear hT
  refine list_step rfl (R := fun v w' => Below _ _ w' ∧ (VI t22_24) v w') (does_val (x_assign rfl (hS.get 2 rfl)) rfl) ?_
  rintro vw27 w27 ⟨hb, he⟩
  have hBw27_w := below_step hBw26_w hb
  have hBw27_w3 := below_step hBw26_w3 hb
  have hBw27_w14 := below_step hBw26_w14 hb
  have hBw27_w20 := below_step hBw26_w20 hb
  have hBw27_w26 := below_step hBw26_w26 hb
  have hBw27_w27 := Below.refl w27.heap.size w27
  obtain rfl : vw27 = .int .i64 t22_24 := he
  refine hS.next (v := .int .i64 t22_24) (d := 9) rfl (by decide) (by rfl) ?_
  clear hS
  intro at28 hS
  refine list_step rfl (R := fun v w' => Below _ _ w' ∧ (VI t22_25) v w') (does_val (x_assign rfl (hS.get 2 rfl)) rfl) ?_
  rintro vw29 w29 ⟨hb, he⟩
  have hBw29_w := below_step hBw27_w hb
  have hBw29_w3 := below_step hBw27_w3 hb
  have hBw29_w14 := below_step hBw27_w14 hb
  have hBw29_w20 := below_step hBw27_w20 hb
  have hBw29_w26 := below_step hBw27_w26 hb
  have hBw29_w27 := below_step hBw27_w27 hb
  have hBw29_w29 := Below.refl w29.heap.size w29
  obtain rfl : vw29 = .int .i64 t22_25 := he
  refine hS.next (v := .int .i64 t22_25) (d := 10) rfl (by decide) (by rfl) ?_
  clear hS
  intro at30 hS
  refine wpList_nil ?_
  refine hK21 _ _ ?_
  (try clear hK21 K21)
  refine wp_seq_k (fun K31 hK31 => ?_)
  refine reg_seq (N := 75) (bs := [(10, .int .i64 t22_25), (9, .int .i64 t22_24), (8, .pointer (some ⟨g25, 0, none⟩)), (45, .int .i64 t22_25), (44, .int .i64 t22_24), (43, (carillonlaw07_BodyBack.v0 t22_1 t22_2 t22_3 t22_4 t22_5 t22_6 t22_7 t22_8 t22_9 t22_10 t22_11 t22_12 t22_13 t22_14 t22_15 t22_16 t22_17 t22_18 t22_19 t22_20 t22_21 t22_22 t22_23)), (6, .bool t12_2), (5, .slice A15 t12_1.length C15), (3, .pointer (some ⟨g4, 0, none⟩)), (0, .slice A0 l0.length cp0)]) (I := fun x => Below w.heap.size w x ∧ Below w3.heap.size w3 x ∧ Below w14.heap.size w14 x ∧ Below w20.heap.size w20 x ∧ Below w26.heap.size w26 x ∧ Below w29.heap.size w29 x) (ps := [VB t12_2, VB t12_2, VI t22_25, VB (decide (t22_25 = 0)), VB (decide (t22_25 = 0)), VB (decide (t22_25 = 0)), VI t22_24, IsV (.slice A15 t12_1.length C15), VI (t12_1.length : Int), VB (decide (t22_24 = (t12_1.length : Int))), VB (decide (t22_24 = (t12_1.length : Int))), VB (decide (t22_24 = (t12_1.length : Int))), VI t22_24, IsV (.slice A0 l0.length cp0), VI (l0.length : Int), VP g4 0, VI a1_0, VI t32, VI (wrap64 ((l0.length : Int) + t32)), VB (decide (t22_24 = (wrap64 ((l0.length : Int) + t32)))), VB (decide (t22_24 = (wrap64 ((l0.length : Int) + t32)))), VB (decide (t22_24 = (wrap64 ((l0.length : Int) + t32)))), IsV ((carillonlaw07_BodyBack.v0 t22_1 t22_2 t22_3 t22_4 t22_5 t22_6 t22_7 t22_8 t22_9 t22_10 t22_11 t22_12 t22_13 t22_14 t22_15 t22_16 t22_17 t22_18 t22_19 t22_20 t22_21 t22_22 t22_23)), IsV ((carillonlaw07_BodyBack.v0 a1_0 a1_1 a1_2 a1_3 a1_4 a1_5 a1_6 a1_7 a1_8 a1_9 a1_10 a1_11 a1_12 a1_13 a1_14 a1_15 a1_16 a1_17 a1_18 a1_19 a1_20 a1_21 a1_22)), VB ((t22_1 == a1_0) && ((t22_2 == a1_1) && ((t22_3 == a1_2) && ((t22_4 == a1_3) && ((t22_5 == a1_4) && ((t22_6 == a1_5) && ((t22_7 == a1_6) && ((t22_8 == a1_7) && ((t22_9 == a1_8) && ((t22_10 == a1_9) && ((t22_11 == a1_10) && ((t22_12 == a1_11) && ((t22_13 == a1_12) && ((t22_14 == a1_13) && ((t22_15 == a1_14) && ((t22_16 == a1_15) && ((t22_17 == a1_16) && ((t22_18 == a1_17) && ((t22_19 == a1_18) && ((t22_20 == a1_19) && ((t22_21 == a1_20) && ((t22_22 == a1_21) && (t22_23 == a1_22))))))))))))))))))))))), VB ((t22_1 == a1_0) && ((t22_2 == a1_1) && ((t22_3 == a1_2) && ((t22_4 == a1_3) && ((t22_5 == a1_4) && ((t22_6 == a1_5) && ((t22_7 == a1_6) && ((t22_8 == a1_7) && ((t22_9 == a1_8) && ((t22_10 == a1_9) && ((t22_11 == a1_10) && ((t22_12 == a1_11) && ((t22_13 == a1_12) && ((t22_14 == a1_13) && ((t22_15 == a1_14) && ((t22_16 == a1_15) && ((t22_17 == a1_16) && ((t22_18 == a1_17) && ((t22_19 == a1_18) && ((t22_20 == a1_19) && ((t22_21 == a1_20) && ((t22_22 == a1_21) && (t22_23 == a1_22))))))))))))))))))))))), VB ((t22_1 == a1_0) && ((t22_2 == a1_1) && ((t22_3 == a1_2) && ((t22_4 == a1_3) && ((t22_5 == a1_4) && ((t22_6 == a1_5) && ((t22_7 == a1_6) && ((t22_8 == a1_7) && ((t22_9 == a1_8) && ((t22_10 == a1_9) && ((t22_11 == a1_10) && ((t22_12 == a1_11) && ((t22_13 == a1_12) && ((t22_14 == a1_13) && ((t22_15 == a1_14) && ((t22_16 == a1_15) && ((t22_17 == a1_16) && ((t22_18 == a1_17) && ((t22_19 == a1_18) && ((t22_20 == a1_19) && ((t22_21 == a1_20) && ((t22_22 == a1_21) && (t22_23 == a1_22))))))))))))))))))))))), VB t33, VB t33, VB t33]) (by kernel_rfl) ?_ ?_ rfl hS ⟨hBw29_w, hBw29_w3, hBw29_w14, hBw29_w20, hBw29_w26, hBw29_w29⟩ ?_ ?_
  · exact fun x y hI hb => ⟨below_step hI.1 hb, below_step hI.2.1 hb, below_step hI.2.2.1 hb, below_step hI.2.2.2.1 hb, below_step hI.2.2.2.2.1 hb, below_step hI.2.2.2.2.2 hb⟩
  · exact .v (.v (.v (.v (.v (.v (.v (.v (.v (.v (.v (.v (.v (.v (.v (.v (.v (.v (.v (.v (.v (.v (.v (.v (.v (.v (.v (.v (.v (.v (.nil))))))))))))))))))))))))))))))
  · refine .ms 6 rfl rfl rfl ?_
    refine .mv 0 rfl rfl rfl rfl ?_
    refine .oy 1 47 rfl rfl rfl rfl rfl c2 (fun a w hS hI hp => does_val (x_move rfl (hS.get 0 rfl)) rfl) ?_
    refine .oy 1 47 rfl rfl rfl rfl rfl c2 (fun a w hS hI hp => does_val (x_bin rfl (hp.V 2 rfl rfl) (rfl) (b_eql _ _ _ _ _ _)) rfl) ?_
    refine .pt 1 3 rfl rfl rfl rfl c2 rfl rfl ?_
    refine .mv 4 rfl rfl rfl rfl ?_
    refine .oy 5 51 rfl rfl rfl rfl rfl ((decide_eq_true c3)) (fun a w hS hI hp => does_val (x_move rfl (hS.get 1 rfl)) rfl) ?_
    refine .oy 5 51 rfl rfl rfl rfl rfl ((decide_eq_true c3)) (fun a w hS hI hp => does_val (x_move rfl (hS.get 7 rfl)) rfl) ?_
    refine .oy 5 51 rfl rfl rfl rfl rfl ((decide_eq_true c3)) (fun a w hS hI hp => does_val (x_len (e := 5) rfl (by kernel_rfl) (hp.V 7 rfl rfl)) rfl) ?_
    refine .oy 5 51 rfl rfl rfl rfl rfl ((decide_eq_true c3)) (fun a w hS hI hp => does_val (x_bin rfl (hp.V 6 rfl rfl) (hp.V 8 rfl rfl) (b_eql _ _ _ _ _ _)) rfl) ?_
    refine .pt 5 9 rfl rfl rfl rfl ((decide_eq_true c3)) rfl rfl ?_
    refine .mv 10 rfl rfl rfl rfl ?_
    refine .oy 11 57 rfl rfl rfl rfl rfl ((decide_eq_true c4)) (fun a w hS hI hp => does_val (x_move rfl (hS.get 1 rfl)) rfl) ?_
    refine .oy 11 57 rfl rfl rfl rfl rfl ((decide_eq_true c4)) (fun a w hS hI hp => does_val (x_move rfl (hS.get 9 rfl)) rfl) ?_
    refine .oy 11 57 rfl rfl rfl rfl rfl ((decide_eq_true c4)) (fun a w hS hI hp => does_val (x_len (e := 5) rfl (by kernel_rfl) (hp.V 13 rfl rfl)) rfl) ?_
    refine .oy 11 57 rfl rfl rfl rfl rfl ((decide_eq_true c4)) (fun a w hS hI hp => does_val (x_fieldE (b := 0) rfl (hS.get 8 rfl) Try.underlying29 rfl rfl (by kernel_rfl)) rfl) ?_
    refine .oy 11 57 rfl rfl rfl rfl rfl ((decide_eq_true c4)) (fun a w hS hI hp => does_val (x_load1 (d := .int .i64) rfl (hp.V 15 rfl rfl) (by kernel_rfl) rfl ((blk_cell (((hI.2.1).block g4 (blk_lt hbxg4)).trans hbxg4) 0).trans rfl)) rfl) ?_
    refine .oy 11 57 rfl rfl rfl rfl rfl ((decide_eq_true c4)) (fun a w hS hI hp => does_call (by kernel_rfl) (ar1 (hp.V 16 rfl rfl)) ((body_Len.calls k a1_0 t32 _  At32).mono fun _ _ h => ⟨_, h.1, h.2.below, rfl⟩)) ?_
    refine .oy 11 57 rfl rfl rfl rfl rfl ((decide_eq_true c4)) (fun a w hS hI hp => does_val (x_bin rfl (hp.V 14 rfl rfl) (hp.V 17 rfl rfl) (b_add _ _ _ _ _)) rfl) ?_
    refine .oy 11 57 rfl rfl rfl rfl rfl ((decide_eq_true c4)) (fun a w hS hI hp => does_val (x_bin rfl (hp.V 12 rfl rfl) (hp.V 18 rfl rfl) (b_eql _ _ _ _ _ _)) rfl) ?_
    refine .pt 11 19 rfl rfl rfl rfl ((decide_eq_true c4)) rfl rfl ?_
    refine .mv 20 rfl rfl rfl rfl ?_
    refine .oy 21 67 rfl rfl rfl rfl rfl ((decide_eq_true c5)) (fun a w hS hI hp => does_loadrow rfl (hS.get 2 rfl) (((hI.2.2.2.2.1).block g25 (blk_lt hbxw26)).trans hbxw26) Try.underlying29 rfl (by kernel_rfl) rfl) ?_
    refine .oy 21 67 rfl rfl rfl rfl rfl ((decide_eq_true c5)) (fun a w hS hI hp => does_loadrow rfl (hS.get 8 rfl) (((hI.2.1).block g4 (blk_lt hbxg4)).trans hbxg4) Try.underlying29 rfl (by kernel_rfl) rfl) ?_
    refine .oy 21 67 rfl rfl rfl rfl rfl ((decide_eq_true c5)) (fun a w hS hI hp => does_val (x_bin rfl (hp.V 22 rfl rfl) (hp.V 23 rfl rfl) (carillonlaw07_BodyBack.eql29 _ _ _ t22_1 t22_2 t22_3 t22_4 t22_5 t22_6 t22_7 t22_8 t22_9 t22_10 t22_11 t22_12 t22_13 t22_14 t22_15 t22_16 t22_17 t22_18 t22_19 t22_20 t22_21 t22_22 t22_23 a1_0 a1_1 a1_2 a1_3 a1_4 a1_5 a1_6 a1_7 a1_8 a1_9 a1_10 a1_11 a1_12 a1_13 a1_14 a1_15 a1_16 a1_17 a1_18 a1_19 a1_20 a1_21 a1_22)) rfl) ?_
    refine .pt 21 24 rfl rfl rfl rfl ((decide_eq_true c5)) rfl rfl ?_
    refine .mv 25 rfl rfl rfl rfl ?_
    refine .oy 26 72 rfl rfl rfl rfl rfl c6 (fun a w hS hI hp => does_call (by kernel_rfl) rfl ((carillonlaw07_awake.calls k  t33 _  At33).mono fun _ _ h => ⟨_, h.1, h.2, rfl⟩)) ?_
    refine .pt 26 27 rfl rfl rfl rfl c6 rfl rfl ?_
    refine .asg 28 rfl rfl rfl rfl ?_
    exact .nil
  clear hS
  intro at34 w35 hS hI hp
  have hBw35_w := hI.1
  have hBw35_w3 := hI.2.1
  have hBw35_w14 := hI.2.2.1
  have hBw35_w20 := hI.2.2.2.1
  have hBw35_w26 := hI.2.2.2.2.1
  have hBw35_w29 := hI.2.2.2.2.2
  replace hS := hS.nil
  have hv4 : sl _ 4 = .bool t33 := hp 29 (by decide)
  have hBw35_w35 := Below.refl w35.heap.size w35
  have hS := hS.cons hv4
  clear hp hI hv4
  refine hK31 _ _ ?_
  (try clear hK31 K31)
  refine wp_ret ?_
  (try simp only [Exit.then, Exit.inBlock, Exit.jump, Exit.noGoto])
  exact bodyPost_ret (v := .bool true) (by rw [results_tmp rfl]; exact congrArg (Result.ok · _) ((hS.get 0 rfl).trans (congrArg Value.bool hret))) hS.nodef ⟨rfl, hBw35_w⟩
def carillonlaw07_BodyBack.Pure : Prop := ∀ (l0 : List Int) (a1_0 a1_1 a1_2 a1_3 a1_4 a1_5 a1_6 a1_7 a1_8 a1_9 a1_10 a1_11 a1_12 a1_13 a1_14 a1_15 a1_16 a1_17 a1_18 a1_19 a1_20 a1_21 a1_22 : Int), l0.length ≤ maxLen → l0.length * 1 ≤ 140737488351232 → (∀ x ∈ l0, (Lit.int .u8 x).wf = true) → (Lit.int .i64 a1_0).wf = true → (Lit.int .i64 a1_1).wf = true → (Lit.int .i64 a1_2).wf = true → (Lit.int .i64 a1_3).wf = true → (Lit.int .u64 a1_4).wf = true → (Lit.int .i64 a1_5).wf = true → (Lit.int .i64 a1_6).wf = true → (Lit.int .i64 a1_7).wf = true → (Lit.int .i64 a1_8).wf = true → (Lit.int .u64 a1_9).wf = true → (Lit.int .i64 a1_10).wf = true → (Lit.int .i64 a1_11).wf = true → (Lit.int .i64 a1_12).wf = true → (Lit.int .i64 a1_13).wf = true → (Lit.int .i64 a1_14).wf = true → (Lit.int .i64 a1_15).wf = true → (Lit.int .i64 a1_16).wf = true → (Lit.int .u64 a1_17).wf = true → (Lit.int .i64 a1_18).wf = true → (Lit.int .i64 a1_19).wf = true → (Lit.int .i64 a1_20).wf = true → (Lit.int .i64 a1_21).wf = true → (Lit.int .i64 a1_22).wf = true → ∃ k, carillonlaw07_BodyBack.f k l0 a1_0 a1_1 a1_2 a1_3 a1_4 a1_5 a1_6 a1_7 a1_8 a1_9 a1_10 a1_11 a1_12 a1_13 a1_14 a1_15 a1_16 a1_17 a1_18 a1_19 a1_20 a1_21 a1_22 = some true
theorem carillonlaw07_BodyBack.walk (P : carillonlaw07_BodyBack.Pure) (a0 : Option Addr) (len0 cap0 : Nat) (z0 : List Int) (a1_0 a1_1 a1_2 a1_3 a1_4 a1_5 a1_6 a1_7 a1_8 a1_9 a1_10 a1_11 a1_12 a1_13 a1_14 a1_15 a1_16 a1_17 a1_18 a1_19 a1_20 a1_21 a1_22 : Int) (w : World) (w0 : (a0 = none ∧ len0 = 0 ∧ cap0 = 0 ∧ z0 = []) ∨ ∃ x, a0 = some x ∧ len0 ≤ cap0 ∧ cap0 ≤ maxLen ∧ z0.length = cap0 ∧ (∀ i, i < z0.length → w.cell? (x.add i) = some (.int .u8 (z0.getD i 0))) ∧ ∀ n ∈ z0, (Lit.int .u8 n).wf = true) (y0 : len0 * 1 ≤ 140737488351232) (w1_0 : (Lit.int .i64 a1_0).wf = true) (w1_1 : (Lit.int .i64 a1_1).wf = true) (w1_2 : (Lit.int .i64 a1_2).wf = true) (w1_3 : (Lit.int .i64 a1_3).wf = true) (w1_4 : (Lit.int .u64 a1_4).wf = true) (w1_5 : (Lit.int .i64 a1_5).wf = true) (w1_6 : (Lit.int .i64 a1_6).wf = true) (w1_7 : (Lit.int .i64 a1_7).wf = true) (w1_8 : (Lit.int .i64 a1_8).wf = true) (w1_9 : (Lit.int .u64 a1_9).wf = true) (w1_10 : (Lit.int .i64 a1_10).wf = true) (w1_11 : (Lit.int .i64 a1_11).wf = true) (w1_12 : (Lit.int .i64 a1_12).wf = true) (w1_13 : (Lit.int .i64 a1_13).wf = true) (w1_14 : (Lit.int .i64 a1_14).wf = true) (w1_15 : (Lit.int .i64 a1_15).wf = true) (w1_16 : (Lit.int .i64 a1_16).wf = true) (w1_17 : (Lit.int .u64 a1_17).wf = true) (w1_18 : (Lit.int .i64 a1_18).wf = true) (w1_19 : (Lit.int .i64 a1_19).wf = true) (w1_20 : (Lit.int .i64 a1_20).wf = true) (w1_21 : (Lit.int .i64 a1_21).wf = true) (w1_22 : (Lit.int .i64 a1_22).wf = true) :
    Calls Try.prog 6 #[.slice a0 len0 cap0, (carillonlaw07_BodyBack.v0 a1_0 a1_1 a1_2 a1_3 a1_4 a1_5 a1_6 a1_7 a1_8 a1_9 a1_10 a1_11 a1_12 a1_13 a1_14 a1_15 a1_16 a1_17 a1_18 a1_19 a1_20 a1_21 a1_22)] w fun e w' => e = .returned (.bool true) ∧ Below w.heap.size w w' := by
  obtain ⟨l0, rfl, hr0, hm0, hw0, hc0⟩ := ReadsInt.ofRowC w0
  obtain ⟨k, h⟩ := P l0 a1_0 a1_1 a1_2 a1_3 a1_4 a1_5 a1_6 a1_7 a1_8 a1_9 a1_10 a1_11 a1_12 a1_13 a1_14 a1_15 a1_16 a1_17 a1_18 a1_19 a1_20 a1_21 a1_22 hm0 y0 hw0 w1_0 w1_1 w1_2 w1_3 w1_4 w1_5 w1_6 w1_7 w1_8 w1_9 w1_10 w1_11 w1_12 w1_13 w1_14 w1_15 w1_16 w1_17 w1_18 w1_19 w1_20 w1_21 w1_22
  refine (carillonlaw07_BodyBack.calls k _ _ l0 a1_0 a1_1 a1_2 a1_3 a1_4 a1_5 a1_6 a1_7 a1_8 a1_9 a1_10 a1_11 a1_12 a1_13 a1_14 a1_15 a1_16 a1_17 a1_18 a1_19 a1_20 a1_21 a1_22 w (Kd.C_of_reads (d := (0 : Int)) (h1 := fun _ => rfl) hr0) hc0 h).mono ?_
  rintro e w' ⟨rfl, hd⟩
  exact ⟨rfl, hd⟩
end Go.Proofs.Ytpoocfapmgmfkaa.P
