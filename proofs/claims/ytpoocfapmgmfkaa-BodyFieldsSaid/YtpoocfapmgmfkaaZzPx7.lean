/- Functions and loops of the given program as Lean functions, and that the code comes to what they say: written by this session's own program; Lean checks it. -/
import Derived.Test.YtpoocfapmgmfkaaZzPx0
import Derived.Test.YtpoocfapmgmfkaaZzPx1
import Derived.Test.YtpoocfapmgmfkaaZzPx2
import Derived.Test.YtpoocfapmgmfkaaZzPx4
import Derived.Test.YtpoocfapmgmfkaaZzPx6
namespace Go.Proofs.Ytpoocfapmgmfkaa.P
open Go.RowKit Go.Proofs.YtpoocfapmgmfkaaW.PrintWords Go.Proofs.YtpoocfapmgmfkaaW.PrintLast Go.Proofs.YtpoocfapmgmfkaaW.PrintMore
attribute [local go_sem] max2_int min2_int max_two min_two max_three min_three max_four min_four   -- for this text's walks alone
set_option linter.unusedVariables false
set_option linter.unusedSimpArgs false
/-! ### carillonlaw07_BodyFields: function 4: by our own printer -/
def carillonlaw07_BodyFields.j1 (k : Nat) (x1_5_0 x1_5_1 x1_5_2 x1_5_3 x1_5_4 x1_5_5 x1_5_6 x1_5_7 x1_5_8 x1_5_9 x1_5_10 x1_5_11 x1_5_12 x1_5_13 x1_5_14 x1_5_15 x1_5_16 x1_5_17 x1_5_18 x1_5_19 x1_5_20 x1_5_21 x1_5_22 : Int) (x1_6 : Bool) : Option (Bool) := (body_Check.f k x1_5_0 x1_5_1 x1_5_2 x1_5_3 x1_5_4 x1_5_5 x1_5_6 x1_5_7 x1_5_8 x1_5_9 x1_5_10 x1_5_11 x1_5_12 x1_5_13 x1_5_14 x1_5_15 x1_5_16 x1_5_17 x1_5_18 x1_5_19 x1_5_20 x1_5_21 x1_5_22).bind fun t1002 => (if (t1002 == x1_6) = true then ((carillonlaw07_awake.f k ).bind fun t1003 => (some t1003)) else (some false))
def carillonlaw07_BodyFields.f (k : Nat) (a0_0 a0_1 a0_2 a0_3 a0_4 a0_5 a0_6 a0_7 a0_8 a0_9 a0_10 a0_11 a0_12 a0_13 a0_14 a0_15 a0_16 a0_17 a0_18 a0_19 a0_20 a0_21 a0_22 a1 : Int) : Option (Bool) := (carillonref06_Check.f a0_0 a0_1 a0_2 a0_3 a0_4 a0_5 a0_6 a0_7 a0_8 a0_9 a0_10 a0_11 a0_12 a0_13 a0_14 a0_15 a0_16 a0_17 a0_18 a0_19 a0_20 a0_21 a0_22).bind fun t7 => (if t7 = true then ((carillonref07_Check.f k a0_0 a0_1 a0_2 a0_3 a0_4 a0_5 a0_6 a0_7 a0_8 a0_9 a0_10 a0_11 a0_12 a0_13 a0_14 a0_15 a0_16 a0_17 a0_18 a0_19 a0_20 a0_21 a0_22).bind fun t8 => (if t8 = true then ((carillonlaw00_Place.f a1 4).bind fun t22 => (if t22 = 0 then (if a0_0 = 12 then (carillonlaw07_BodyFields.j1 k a0_0 a0_1 a0_2 a0_3 a0_4 a0_5 a0_6 a0_7 5 a0_9 a0_10 a0_11 a0_12 a0_13 a0_14 a0_15 a0_16 a0_17 a0_18 a0_19 a0_20 a0_21 a0_22 false) else (carillonlaw07_BodyFields.j1 k a0_0 a0_1 a0_2 a0_3 a0_4 a0_5 a0_6 a0_7 5 a0_9 a0_10 a0_11 a0_12 a0_13 a0_14 a0_15 a0_16 a0_17 a0_18 a0_19 a0_20 a0_21 a0_22 (!decide (a0_0 = 13)))) else (if t22 = 1 then (if a0_0 = 9 then (carillonlaw07_BodyFields.j1 k a0_0 a0_1 a0_2 a0_3 a0_4 a0_5 a0_6 a0_7 a0_8 a0_9 9 a0_11 a0_12 a0_13 a0_14 a0_15 a0_16 a0_17 a0_18 a0_19 a0_20 a0_21 a0_22 true) else (if a0_0 = 3 then (carillonlaw07_BodyFields.j1 k a0_0 a0_1 a0_2 a0_3 a0_4 a0_5 a0_6 a0_7 a0_8 a0_9 9 a0_11 a0_12 a0_13 a0_14 a0_15 a0_16 a0_17 a0_18 a0_19 a0_20 a0_21 a0_22 true) else (if a0_0 = 10 then (carillonlaw07_BodyFields.j1 k a0_0 a0_1 a0_2 a0_3 a0_4 a0_5 a0_6 a0_7 a0_8 a0_9 9 a0_11 a0_12 a0_13 a0_14 a0_15 a0_16 a0_17 a0_18 a0_19 a0_20 a0_21 a0_22 true) else (if a0_0 = 12 then (carillonlaw07_BodyFields.j1 k a0_0 a0_1 a0_2 a0_3 a0_4 a0_5 a0_6 a0_7 a0_8 a0_9 9 a0_11 a0_12 a0_13 a0_14 a0_15 a0_16 a0_17 a0_18 a0_19 a0_20 a0_21 a0_22 true) else (carillonlaw07_BodyFields.j1 k a0_0 a0_1 a0_2 a0_3 a0_4 a0_5 a0_6 a0_7 a0_8 a0_9 9 a0_11 a0_12 a0_13 a0_14 a0_15 a0_16 a0_17 a0_18 a0_19 a0_20 a0_21 a0_22 (decide (a0_0 = 13))))))) else (if t22 = 2 then (carillonlaw07_BodyFields.j1 k a0_0 a0_1 a0_2 a0_3 a0_4 a0_5 a0_6 a0_7 a0_8 a0_9 a0_10 a0_11 a0_12 a0_13 a0_14 a0_15 a0_16 a0_17 3 a0_19 a0_20 a0_21 a0_22 (decide (a0_0 = 11))) else (carillonlaw07_BodyFields.j1 k a0_0 a0_1 a0_2 a0_3 a0_4 a0_5 a0_6 a0_7 a0_8 a0_9 a0_10 a0_11 a0_12 a0_13 a0_14 a0_15 a0_16 a0_17 a0_18 a0_19 a0_20 2 a0_22 (decide (a0_0 = 13))))))) else ((carillonlaw07_awake.f k ).bind fun t12 => (some t12)))) else ((carillonlaw07_awake.f k ).bind fun t11 => (some t11)))
abbrev carillonlaw07_BodyFields.v0 (x0 x1 x2 x3 x4 x5 x6 x7 x8 x9 x10 x11 x12 x13 x14 x15 x16 x17 x18 x19 x20 x21 x22 : Int) : Value := .agg #[.int .i64 x0, .int .i64 x1, .int .i64 x2, .int .i64 x3, .int .u64 x4, .int .i64 x5, .int .i64 x6, .int .i64 x7, .int .i64 x8, .int .u64 x9, .int .i64 x10, .int .i64 x11, .int .i64 x12, .int .i64 x13, .int .i64 x14, .int .i64 x15, .int .i64 x16, .int .u64 x17, .int .i64 x18, .int .i64 x19, .int .i64 x20, .int .i64 x21, .int .i64 x22]
abbrev carillonlaw07_BodyFields.c1 (x0 x1 x2 x3 x4 x5 x6 x7 x8 x9 x10 x11 x12 x13 x14 x15 x16 x17 x18 x19 x20 x21 x22 : Int) : Array Value := #[.int .i64 x0, .int .i64 x1, .int .i64 x2, .int .i64 x3, .int .u64 x4, .int .i64 x5, .int .i64 x6, .int .i64 x7, .int .i64 x8, .int .u64 x9, .int .i64 x10, .int .i64 x11, .int .i64 x12, .int .i64 x13, .int .i64 x14, .int .i64 x15, .int .i64 x16, .int .u64 x17, .int .i64 x18, .int .i64 x19, .int .i64 x20, .int .i64 x21, .int .i64 x22]
open Go.Proofs.Ytpoocfapmgmfkaa.E in
set_option maxHeartbeats 60000000 in
set_option maxRecDepth 100000 in
theorem carillonlaw07_BodyFields.calls (k : Nat) (a0_0 a0_1 a0_2 a0_3 a0_4 a0_5 a0_6 a0_7 a0_8 a0_9 a0_10 a0_11 a0_12 a0_13 a0_14 a0_15 a0_16 a0_17 a0_18 a0_19 a0_20 a0_21 a0_22 a1 : Int) (w : World) (h : carillonlaw07_BodyFields.f k a0_0 a0_1 a0_2 a0_3 a0_4 a0_5 a0_6 a0_7 a0_8 a0_9 a0_10 a0_11 a0_12 a0_13 a0_14 a0_15 a0_16 a0_17 a0_18 a0_19 a0_20 a0_21 a0_22 a1 = some true) :
    Calls Try.prog 4 #[.agg #[.int .i64 a0_0, .int .i64 a0_1, .int .i64 a0_2, .int .i64 a0_3, .int .u64 a0_4, .int .i64 a0_5, .int .i64 a0_6, .int .i64 a0_7, .int .i64 a0_8, .int .u64 a0_9, .int .i64 a0_10, .int .i64 a0_11, .int .i64 a0_12, .int .i64 a0_13, .int .i64 a0_14, .int .i64 a0_15, .int .i64 a0_16, .int .u64 a0_17, .int .i64 a0_18, .int .i64 a0_19, .int .i64 a0_20, .int .i64 a0_21, .int .i64 a0_22], .int .i64 a1] w fun e w' => e = .returned (.bool true) ∧ Below w.heap.size w w' := by
  have H := h
  clear h
  unfold carillonlaw07_BodyFields.f at H
  obtain ⟨t7, At7, H⟩ := Option.bind_eq_some_iff.mp H
  by_cases c1 : t7 = true
  rotate_left
  · rw [if_neg c1] at H
    obtain ⟨t11, At11, H⟩ := Option.bind_eq_some_iff.mp H
    have hret := Option.some.inj H
    clear H
    refine calls_of_wp (fn := Try.f4) (by kernel_rfl) rfl ?_
    have hS := St.enter #[(carillonlaw07_BodyFields.v0 a0_0 a0_1 a0_2 a0_3 a0_4 a0_5 a0_6 a0_7 a0_8 a0_9 a0_10 a0_11 a0_12 a0_13 a0_14 a0_15 a0_16 a0_17 a0_18 a0_19 a0_20 a0_21 a0_22), .int .i64 a1] 74 (by simp) [(0, (carillonlaw07_BodyFields.v0 a0_0 a0_1 a0_2 a0_3 a0_4 a0_5 a0_6 a0_7 a0_8 a0_9 a0_10 a0_11 a0_12 a0_13 a0_14 a0_15 a0_16 a0_17 a0_18 a0_19 a0_20 a0_21 a0_22)), (1, .int .i64 a1)] (by simp)
    have HB0 := Below.refl w.heap.size w
    refine wp_seq_k (fun K1 hK1 => ?_)
    refine reg_seq (N := 74) (bs := [(0, (carillonlaw07_BodyFields.v0 a0_0 a0_1 a0_2 a0_3 a0_4 a0_5 a0_6 a0_7 a0_8 a0_9 a0_10 a0_11 a0_12 a0_13 a0_14 a0_15 a0_16 a0_17 a0_18 a0_19 a0_20 a0_21 a0_22)), (1, .int .i64 a1)]) (I := fun x => Below w.heap.size w x) (ps := [IsB (carillonlaw07_BodyFields.c1 a0_0 a0_1 a0_2 a0_3 a0_4 a0_5 a0_6 a0_7 a0_8 a0_9 a0_10 a0_11 a0_12 a0_13 a0_14 a0_15 a0_16 a0_17 a0_18 a0_19 a0_20 a0_21 a0_22) 29 w.heap.size, VB false]) (by kernel_rfl) ?_ ?_ rfl hS HB0 ?_ ?_
    · exact fun x y hI hb => below_step hI hb
    · exact .cons (Stays.b _ _ _) (.v (.nil))
    · refine .on rfl (fun a w hS hI hp => does_var (x_box rfl (congrArg Value.cells (hS.get 0 rfl))) (hI).size) ?_
      refine .on rfl (fun a w hS hI hp => does_val (x_assign rfl (rfl)) rfl) ?_
      exact .nil
    clear hS
    intro at2 w3 hS hI hp
    have hBw3_w := hI
    replace hS := (hS.nil).cons (hS.get 1 rfl)
    obtain ⟨g4, hv2, hgeg4, hbxg4⟩ := (show IsB _ 29 _ (sl _ 2) _ from hp 0 (by decide))
    have hBw3_w3 := Below.refl w3.heap.size w3
    have hS := hS.cons hv2
    clear hp hI hv2
    refine hK1 _ _ ?_
    (try clear hK1 K1)
    refine wp_seq_k (fun K5 hK5 => ?_)
    refine wp_seq_k (fun K6 hK6 => ?_)
    refine reg_seq (N := 74) (bs := [(2, .pointer (some ⟨g4, 0, none⟩)), (1, .int .i64 a1)]) (I := fun x => Below w.heap.size w x ∧ Below w3.heap.size w3 x) (ps := [IsV ((carillonlaw07_BodyFields.v0 a0_0 a0_1 a0_2 a0_3 a0_4 a0_5 a0_6 a0_7 a0_8 a0_9 a0_10 a0_11 a0_12 a0_13 a0_14 a0_15 a0_16 a0_17 a0_18 a0_19 a0_20 a0_21 a0_22)), VB t7, VB (!t7), VB (!t7), VU, VU, VU, VB true]) (by kernel_rfl) ?_ ?_ rfl hS ⟨hBw3_w, hBw3_w3⟩ ?_ ?_
    · exact fun x y hI hb => ⟨below_step hI.1 hb, below_step hI.2 hb⟩
    · exact .v (.v (.v (.v (.v (.v (.v (.v (.nil))))))))
    · refine .on rfl (fun a w hS hI hp => does_loadrow rfl (hS.get 0 rfl) (((hI.2).block g4 (blk_lt hbxg4)).trans hbxg4) Try.underlying29 rfl (by kernel_rfl) rfl) ?_
      refine .on rfl (fun a w hS hI hp => does_call (by kernel_rfl) (ar1 (hp.V 0 rfl rfl)) ((carillonref06_Check.calls a0_0 a0_1 a0_2 a0_3 a0_4 a0_5 a0_6 a0_7 a0_8 a0_9 a0_10 a0_11 a0_12 a0_13 a0_14 a0_15 a0_16 a0_17 a0_18 a0_19 a0_20 a0_21 a0_22 t7 _  At7).mono fun _ _ h => ⟨_, h.1, h.2, rfl⟩)) ?_
      refine .on rfl (fun a w hS hI hp => does_val (x_not rfl (hp.V 1 rfl rfl)) rfl) ?_
      refine .mv 2 rfl rfl rfl rfl ?_
      iterate 3 refine .sn 3 10 rfl rfl rfl rfl rfl ((congrArg (!·) (Bool.eq_false_iff.2 c1))) ?_
      refine .on rfl (fun a w hS hI hp => does_val (x_pickT rfl ((hp.V 3 rfl rfl).trans (bT (congrArg (!·) (Bool.eq_false_iff.2 c1)))) (rfl)) rfl) ?_
      exact .nil
    clear hS
    intro at8 w9 hS hI hp
    have hBw9_w := hI.1
    have hBw9_w3 := hI.2
    have hv14 : sl _ 14 = .bool true := hp 7 (by decide)
    have hBw9_w9 := Below.refl w9.heap.size w9
    have hS := hS.cons hv14
    clear hp hI hv14
    refine hK6 _ _ ?_
    (try clear hK6 K6)
    refine wp_cond_true ((hS.get 0 rfl).trans (bT rfl)) ?_
    refine wp_seq_k (fun K10 hK10 => ?_)
    refine reg_seq (N := 74) (bs := [(14, .bool true), (2, .pointer (some ⟨g4, 0, none⟩)), (1, .int .i64 a1)]) (I := fun x => Below w.heap.size w x ∧ Below w3.heap.size w3 x ∧ Below w9.heap.size w9 x) (ps := [VB t11, VB t11]) (by kernel_rfl) ?_ ?_ rfl hS ⟨hBw9_w, hBw9_w3, hBw9_w9⟩ ?_ ?_
    · exact fun x y hI hb => ⟨below_step hI.1 hb, below_step hI.2.1 hb, below_step hI.2.2 hb⟩
    · exact .v (.v (.nil))
    · refine .on rfl (fun a w hS hI hp => does_call (by kernel_rfl) rfl ((carillonlaw07_awake.calls k  t11 _  At11).mono fun _ _ h => ⟨_, h.1, h.2, rfl⟩)) ?_
      refine .asg 0 rfl rfl rfl rfl ?_
      exact .nil
    clear hS
    intro at12 w13 hS hI hp
    have hBw13_w := hI.1
    have hBw13_w3 := hI.2.1
    have hBw13_w9 := hI.2.2
    replace hS := hS.nil
    have hv4 : sl _ 4 = .bool t11 := hp 1 (by decide)
    have hBw13_w13 := Below.refl w13.heap.size w13
    have hS := hS.cons hv4
    clear hp hI hv4
    refine hK10 _ _ ?_
    (try clear hK10 K10)
    refine wp_ret ?_
    (try simp only [Exit.then, Exit.inBlock, Exit.jump, Exit.noGoto])
    exact bodyPost_ret (v := .bool true) (by rw [results_tmp rfl]; exact congrArg (Result.ok · _) ((hS.get 0 rfl).trans (congrArg Value.bool hret))) hS.nodef ⟨rfl, hBw13_w⟩
  rw [if_pos c1] at H
  obtain ⟨t8, At8, H⟩ := Option.bind_eq_some_iff.mp H
  by_cases c2 : t8 = true
  rotate_left
  · rw [if_neg c2] at H
    obtain ⟨t12, At12, H⟩ := Option.bind_eq_some_iff.mp H
    have hret := Option.some.inj H
    clear H
    refine calls_of_wp (fn := Try.f4) (by kernel_rfl) rfl ?_
    have hS := St.enter #[(carillonlaw07_BodyFields.v0 a0_0 a0_1 a0_2 a0_3 a0_4 a0_5 a0_6 a0_7 a0_8 a0_9 a0_10 a0_11 a0_12 a0_13 a0_14 a0_15 a0_16 a0_17 a0_18 a0_19 a0_20 a0_21 a0_22), .int .i64 a1] 74 (by simp) [(0, (carillonlaw07_BodyFields.v0 a0_0 a0_1 a0_2 a0_3 a0_4 a0_5 a0_6 a0_7 a0_8 a0_9 a0_10 a0_11 a0_12 a0_13 a0_14 a0_15 a0_16 a0_17 a0_18 a0_19 a0_20 a0_21 a0_22)), (1, .int .i64 a1)] (by simp)
    have HB0 := Below.refl w.heap.size w
    refine wp_seq_k (fun K1 hK1 => ?_)
    refine reg_seq (N := 74) (bs := [(0, (carillonlaw07_BodyFields.v0 a0_0 a0_1 a0_2 a0_3 a0_4 a0_5 a0_6 a0_7 a0_8 a0_9 a0_10 a0_11 a0_12 a0_13 a0_14 a0_15 a0_16 a0_17 a0_18 a0_19 a0_20 a0_21 a0_22)), (1, .int .i64 a1)]) (I := fun x => Below w.heap.size w x) (ps := [IsB (carillonlaw07_BodyFields.c1 a0_0 a0_1 a0_2 a0_3 a0_4 a0_5 a0_6 a0_7 a0_8 a0_9 a0_10 a0_11 a0_12 a0_13 a0_14 a0_15 a0_16 a0_17 a0_18 a0_19 a0_20 a0_21 a0_22) 29 w.heap.size, VB false]) (by kernel_rfl) ?_ ?_ rfl hS HB0 ?_ ?_
    · exact fun x y hI hb => below_step hI hb
    · exact .cons (Stays.b _ _ _) (.v (.nil))
    · refine .on rfl (fun a w hS hI hp => does_var (x_box rfl (congrArg Value.cells (hS.get 0 rfl))) (hI).size) ?_
      refine .on rfl (fun a w hS hI hp => does_val (x_assign rfl (rfl)) rfl) ?_
      exact .nil
    clear hS
    intro at2 w3 hS hI hp
    have hBw3_w := hI
    replace hS := (hS.nil).cons (hS.get 1 rfl)
    obtain ⟨g4, hv2, hgeg4, hbxg4⟩ := (show IsB _ 29 _ (sl _ 2) _ from hp 0 (by decide))
    have hBw3_w3 := Below.refl w3.heap.size w3
    have hS := hS.cons hv2
    clear hp hI hv2
    refine hK1 _ _ ?_
    (try clear hK1 K1)
    refine wp_seq_k (fun K5 hK5 => ?_)
    refine wp_seq_k (fun K6 hK6 => ?_)
    refine reg_seq (N := 74) (bs := [(2, .pointer (some ⟨g4, 0, none⟩)), (1, .int .i64 a1)]) (I := fun x => Below w.heap.size w x ∧ Below w3.heap.size w3 x) (ps := [IsV ((carillonlaw07_BodyFields.v0 a0_0 a0_1 a0_2 a0_3 a0_4 a0_5 a0_6 a0_7 a0_8 a0_9 a0_10 a0_11 a0_12 a0_13 a0_14 a0_15 a0_16 a0_17 a0_18 a0_19 a0_20 a0_21 a0_22)), VB t7, VB (!t7), VB (!t7), IsV ((carillonlaw07_BodyFields.v0 a0_0 a0_1 a0_2 a0_3 a0_4 a0_5 a0_6 a0_7 a0_8 a0_9 a0_10 a0_11 a0_12 a0_13 a0_14 a0_15 a0_16 a0_17 a0_18 a0_19 a0_20 a0_21 a0_22)), VB t8, VB (!t8), VB (!t8)]) (by kernel_rfl) ?_ ?_ rfl hS ⟨hBw3_w, hBw3_w3⟩ ?_ ?_
    · exact fun x y hI hb => ⟨below_step hI.1 hb, below_step hI.2 hb⟩
    · exact .v (.v (.v (.v (.v (.v (.v (.v (.nil))))))))
    · refine .on rfl (fun a w hS hI hp => does_loadrow rfl (hS.get 0 rfl) (((hI.2).block g4 (blk_lt hbxg4)).trans hbxg4) Try.underlying29 rfl (by kernel_rfl) rfl) ?_
      refine .on rfl (fun a w hS hI hp => does_call (by kernel_rfl) (ar1 (hp.V 0 rfl rfl)) ((carillonref06_Check.calls a0_0 a0_1 a0_2 a0_3 a0_4 a0_5 a0_6 a0_7 a0_8 a0_9 a0_10 a0_11 a0_12 a0_13 a0_14 a0_15 a0_16 a0_17 a0_18 a0_19 a0_20 a0_21 a0_22 t7 _  At7).mono fun _ _ h => ⟨_, h.1, h.2, rfl⟩)) ?_
      refine .on rfl (fun a w hS hI hp => does_val (x_not rfl (hp.V 1 rfl rfl)) rfl) ?_
      refine .mv 2 rfl rfl rfl rfl ?_
      refine .oy 3 10 rfl rfl rfl rfl rfl ((congrArg (!·) c1)) (fun a w hS hI hp => does_loadrow rfl (hS.get 0 rfl) (((hI.2).block g4 (blk_lt hbxg4)).trans hbxg4) Try.underlying29 rfl (by kernel_rfl) rfl) ?_
      refine .oy 3 10 rfl rfl rfl rfl rfl ((congrArg (!·) c1)) (fun a w hS hI hp => does_call (by kernel_rfl) (ar1 (hp.V 4 rfl rfl)) ((carillonref07_Check.calls k a0_0 a0_1 a0_2 a0_3 a0_4 a0_5 a0_6 a0_7 a0_8 a0_9 a0_10 a0_11 a0_12 a0_13 a0_14 a0_15 a0_16 a0_17 a0_18 a0_19 a0_20 a0_21 a0_22 t8 _  At8).mono fun _ _ h => ⟨_, h.1, h.2, rfl⟩)) ?_
      refine .oy 3 10 rfl rfl rfl rfl rfl ((congrArg (!·) c1)) (fun a w hS hI hp => does_val (x_not rfl (hp.V 5 rfl rfl)) rfl) ?_
      refine .on rfl (fun a w hS hI hp => does_val (x_pickF rfl ((hp.V 3 rfl rfl).trans (bF (congrArg (!·) c1))) (hp.V 6 rfl rfl)) rfl) ?_
      exact .nil
    clear hS
    intro at9 w10 hS hI hp
    have hBw10_w := hI.1
    have hBw10_w3 := hI.2
    have hv14 : sl _ 14 = .bool (!t8) := hp 7 (by decide)
    have hBw10_w10 := Below.refl w10.heap.size w10
    have hS := hS.cons hv14
    clear hp hI hv14
    refine hK6 _ _ ?_
    (try clear hK6 K6)
    refine wp_cond_true ((hS.get 0 rfl).trans (bT (congrArg (!·) (Bool.eq_false_iff.2 c2)))) ?_
    refine wp_seq_k (fun K11 hK11 => ?_)
    refine reg_seq (N := 74) (bs := [(14, .bool (!t8)), (2, .pointer (some ⟨g4, 0, none⟩)), (1, .int .i64 a1)]) (I := fun x => Below w.heap.size w x ∧ Below w3.heap.size w3 x ∧ Below w10.heap.size w10 x) (ps := [VB t12, VB t12]) (by kernel_rfl) ?_ ?_ rfl hS ⟨hBw10_w, hBw10_w3, hBw10_w10⟩ ?_ ?_
    · exact fun x y hI hb => ⟨below_step hI.1 hb, below_step hI.2.1 hb, below_step hI.2.2 hb⟩
    · exact .v (.v (.nil))
    · refine .on rfl (fun a w hS hI hp => does_call (by kernel_rfl) rfl ((carillonlaw07_awake.calls k  t12 _  At12).mono fun _ _ h => ⟨_, h.1, h.2, rfl⟩)) ?_
      refine .asg 0 rfl rfl rfl rfl ?_
      exact .nil
    clear hS
    intro at13 w14 hS hI hp
    have hBw14_w := hI.1
    have hBw14_w3 := hI.2.1
    have hBw14_w10 := hI.2.2
    replace hS := hS.nil
    have hv4 : sl _ 4 = .bool t12 := hp 1 (by decide)
    have hBw14_w14 := Below.refl w14.heap.size w14
    have hS := hS.cons hv4
    clear hp hI hv4
    refine hK11 _ _ ?_
    (try clear hK11 K11)
    refine wp_ret ?_
    (try simp only [Exit.then, Exit.inBlock, Exit.jump, Exit.noGoto])
    exact bodyPost_ret (v := .bool true) (by rw [results_tmp rfl]; exact congrArg (Result.ok · _) ((hS.get 0 rfl).trans (congrArg Value.bool hret))) hS.nodef ⟨rfl, hBw14_w⟩
  rw [if_pos c2] at H
  refine calls_of_wp (fn := Try.f4) (by kernel_rfl) rfl ?_
  have hS := St.enter #[(carillonlaw07_BodyFields.v0 a0_0 a0_1 a0_2 a0_3 a0_4 a0_5 a0_6 a0_7 a0_8 a0_9 a0_10 a0_11 a0_12 a0_13 a0_14 a0_15 a0_16 a0_17 a0_18 a0_19 a0_20 a0_21 a0_22), .int .i64 a1] 74 (by simp) [(0, (carillonlaw07_BodyFields.v0 a0_0 a0_1 a0_2 a0_3 a0_4 a0_5 a0_6 a0_7 a0_8 a0_9 a0_10 a0_11 a0_12 a0_13 a0_14 a0_15 a0_16 a0_17 a0_18 a0_19 a0_20 a0_21 a0_22)), (1, .int .i64 a1)] (by simp)
  have HB0 := Below.refl w.heap.size w
  refine wp_seq_k (fun K1 hK1 => ?_)
  refine reg_seq (N := 74) (bs := [(0, (carillonlaw07_BodyFields.v0 a0_0 a0_1 a0_2 a0_3 a0_4 a0_5 a0_6 a0_7 a0_8 a0_9 a0_10 a0_11 a0_12 a0_13 a0_14 a0_15 a0_16 a0_17 a0_18 a0_19 a0_20 a0_21 a0_22)), (1, .int .i64 a1)]) (I := fun x => Below w.heap.size w x) (ps := [IsB (carillonlaw07_BodyFields.c1 a0_0 a0_1 a0_2 a0_3 a0_4 a0_5 a0_6 a0_7 a0_8 a0_9 a0_10 a0_11 a0_12 a0_13 a0_14 a0_15 a0_16 a0_17 a0_18 a0_19 a0_20 a0_21 a0_22) 29 w.heap.size, VB false]) (by kernel_rfl) ?_ ?_ rfl hS HB0 ?_ ?_
  · exact fun x y hI hb => below_step hI hb
  · exact .cons (Stays.b _ _ _) (.v (.nil))
  · refine .on rfl (fun a w hS hI hp => does_var (x_box rfl (congrArg Value.cells (hS.get 0 rfl))) (hI).size) ?_
    refine .on rfl (fun a w hS hI hp => does_val (x_assign rfl (rfl)) rfl) ?_
    exact .nil
  clear hS
  intro at2 w3 hS hI hp
  have hBw3_w := hI
  replace hS := (hS.nil).cons (hS.get 1 rfl)
  obtain ⟨g4, hv2, hgeg4, hbxg4⟩ := (show IsB _ 29 _ (sl _ 2) _ from hp 0 (by decide))
  have hBw3_w3 := Below.refl w3.heap.size w3
  have hS := hS.cons hv2
  clear hp hI hv2
  refine hK1 _ _ ?_
  (try clear hK1 K1)
  refine wp_seq_k (fun K5 hK5 => ?_)
  refine wp_seq_k (fun K6 hK6 => ?_)
  refine reg_seq (N := 74) (bs := [(2, .pointer (some ⟨g4, 0, none⟩)), (1, .int .i64 a1)]) (I := fun x => Below w.heap.size w x ∧ Below w3.heap.size w3 x) (ps := [IsV ((carillonlaw07_BodyFields.v0 a0_0 a0_1 a0_2 a0_3 a0_4 a0_5 a0_6 a0_7 a0_8 a0_9 a0_10 a0_11 a0_12 a0_13 a0_14 a0_15 a0_16 a0_17 a0_18 a0_19 a0_20 a0_21 a0_22)), VB t7, VB (!t7), VB (!t7), IsV ((carillonlaw07_BodyFields.v0 a0_0 a0_1 a0_2 a0_3 a0_4 a0_5 a0_6 a0_7 a0_8 a0_9 a0_10 a0_11 a0_12 a0_13 a0_14 a0_15 a0_16 a0_17 a0_18 a0_19 a0_20 a0_21 a0_22)), VB t8, VB (!t8), VB (!t8)]) (by kernel_rfl) ?_ ?_ rfl hS ⟨hBw3_w, hBw3_w3⟩ ?_ ?_
  · exact fun x y hI hb => ⟨below_step hI.1 hb, below_step hI.2 hb⟩
  · exact .v (.v (.v (.v (.v (.v (.v (.v (.nil))))))))
  · refine .on rfl (fun a w hS hI hp => does_loadrow rfl (hS.get 0 rfl) (((hI.2).block g4 (blk_lt hbxg4)).trans hbxg4) Try.underlying29 rfl (by kernel_rfl) rfl) ?_
    refine .on rfl (fun a w hS hI hp => does_call (by kernel_rfl) (ar1 (hp.V 0 rfl rfl)) ((carillonref06_Check.calls a0_0 a0_1 a0_2 a0_3 a0_4 a0_5 a0_6 a0_7 a0_8 a0_9 a0_10 a0_11 a0_12 a0_13 a0_14 a0_15 a0_16 a0_17 a0_18 a0_19 a0_20 a0_21 a0_22 t7 _  At7).mono fun _ _ h => ⟨_, h.1, h.2, rfl⟩)) ?_
    refine .on rfl (fun a w hS hI hp => does_val (x_not rfl (hp.V 1 rfl rfl)) rfl) ?_
    refine .mv 2 rfl rfl rfl rfl ?_
    refine .oy 3 10 rfl rfl rfl rfl rfl ((congrArg (!·) c1)) (fun a w hS hI hp => does_loadrow rfl (hS.get 0 rfl) (((hI.2).block g4 (blk_lt hbxg4)).trans hbxg4) Try.underlying29 rfl (by kernel_rfl) rfl) ?_
    refine .oy 3 10 rfl rfl rfl rfl rfl ((congrArg (!·) c1)) (fun a w hS hI hp => does_call (by kernel_rfl) (ar1 (hp.V 4 rfl rfl)) ((carillonref07_Check.calls k a0_0 a0_1 a0_2 a0_3 a0_4 a0_5 a0_6 a0_7 a0_8 a0_9 a0_10 a0_11 a0_12 a0_13 a0_14 a0_15 a0_16 a0_17 a0_18 a0_19 a0_20 a0_21 a0_22 t8 _  At8).mono fun _ _ h => ⟨_, h.1, h.2, rfl⟩)) ?_
    refine .oy 3 10 rfl rfl rfl rfl rfl ((congrArg (!·) c1)) (fun a w hS hI hp => does_val (x_not rfl (hp.V 5 rfl rfl)) rfl) ?_
    refine .on rfl (fun a w hS hI hp => does_val (x_pickF rfl ((hp.V 3 rfl rfl).trans (bF (congrArg (!·) c1))) (hp.V 6 rfl rfl)) rfl) ?_
    exact .nil
  clear hS
  intro at9 w10 hS hI hp
  have hBw10_w := hI.1
  have hBw10_w3 := hI.2
  have hv14 : sl _ 14 = .bool (!t8) := hp 7 (by decide)
  have hBw10_w10 := Below.refl w10.heap.size w10
  have hS := hS.cons hv14
  clear hp hI hv14
  refine hK6 _ _ ?_
  (try clear hK6 K6)
  refine wp_cond_false ((hS.get 0 rfl).trans (bF (congrArg (!·) c2))) ?_
  refine wp_skip ?_
  refine hK5 _ _ ?_
  (try clear hK5 K5)
  refine wp_seq_k (fun K11 hK11 => ?_)
  refine reg_seq_tail 2 (N := 74) (bs := [(14, .bool (!t8)), (2, .pointer (some ⟨g4, 0, none⟩)), (1, .int .i64 a1)]) (I := fun x => Below w.heap.size w x ∧ Below w3.heap.size w3 x ∧ Below w10.heap.size w10 x) (ps := [IsV ((carillonlaw07_BodyFields.v0 a0_0 a0_1 a0_2 a0_3 a0_4 a0_5 a0_6 a0_7 a0_8 a0_9 a0_10 a0_11 a0_12 a0_13 a0_14 a0_15 a0_16 a0_17 a0_18 a0_19 a0_20 a0_21 a0_22)), IsB (carillonlaw07_BodyFields.c1 0 0 0 0 0 0 0 0 0 0 0 0 0 0 0 0 0 0 0 0 0 0 0) 29 w10.heap.size]) (by kernel_rfl) ?_ ?_ rfl hS ⟨hBw10_w, hBw10_w3, hBw10_w10⟩ ?_ ?_
  · exact fun x y hI hb => ⟨below_step hI.1 hb, below_step hI.2.1 hb, below_step hI.2.2 hb⟩
  · exact .v (.cons (Stays.b _ _ _) (.nil))
  · refine .on rfl (fun a w hS hI hp => does_loadrow rfl (hS.get 1 rfl) (((hI.2.1).block g4 (blk_lt hbxg4)).trans hbxg4) Try.underlying29 rfl (by kernel_rfl) rfl) ?_
    refine .on rfl (fun a w hS hI hp => does_var (x_alloc rfl (by kernel_rfl)) (hI.2.2).size) ?_
    exact .nil
  clear hS
  intro at12 w13 hS hI hp
  have hBw13_w := hI.1
  have hBw13_w3 := hI.2.1
  have hBw13_w10 := hI.2.2
  replace hS := ((hS.nil).cons (hS.get 2 rfl)).cons (hS.get 1 rfl)
  have hv16 : sl _ 16 = (carillonlaw07_BodyFields.v0 a0_0 a0_1 a0_2 a0_3 a0_4 a0_5 a0_6 a0_7 a0_8 a0_9 a0_10 a0_11 a0_12 a0_13 a0_14 a0_15 a0_16 a0_17 a0_18 a0_19 a0_20 a0_21 a0_22) := hp 0 (by decide)
  obtain ⟨g14, hv5, hgeg14, hbxg14⟩ := (show IsB _ 29 _ (sl _ 5) _ from hp 1 (by decide))
  have hne15 : g14 ≠ g4 := Nat.ne_of_gt (Nat.lt_of_lt_of_le (blk_lt ((hBw10_w3.block g4 (blk_lt hbxg4)).trans hbxg4)) hgeg14)
  have hBw13_w13 := Below.refl w13.heap.size w13
  have hS := hS.cons hv16
  have hS := hS.cons hv5
  clear hp hI hv16 hv5
  show wpList _ _ _ [_] _ _
  refine list_step rfl (does_storeAll (g := g14) (cs := (carillonlaw07_BodyFields.c1 a0_0 a0_1 a0_2 a0_3 a0_4 a0_5 a0_6 a0_7 a0_8 a0_9 a0_10 a0_11 a0_12 a0_13 a0_14 a0_15 a0_16 a0_17 a0_18 a0_19 a0_20 a0_21 a0_22)) rfl (hS.get 0 rfl) (hS.get 1 rfl) ((hBw13_w13.block g14 (blk_lt hbxg14)).trans hbxg14) (by kernel_rfl) (by kernel_rfl) (by kernel_rfl)) ?_
  rintro vw16 w16 ⟨rfl, hbxw16, hT⟩
  have hBw16_w := hT.below hBw13_w (Nat.le_trans (hBw10_w).size hgeg14) (hBw13_w).size
  have hBw16_w3 := hT.below hBw13_w3 (Nat.le_trans (hBw10_w3).size hgeg14) (hBw13_w3).size
  have hBw16_w10 := hT.below hBw13_w10 hgeg14 (hBw13_w10).size
  have hBw16_w16 := Below.refl w16.heap.size w16
  clear hT
  refine wpList_nil ?_
  refine hK11 _ _ ?_
  (try clear hK11 K11)
  refine wp_seq_k (fun K17 hK17 => ?_)
  refine reg_seq (N := 74) (bs := [(5, .pointer (some ⟨g14, 0, none⟩)), (16, (carillonlaw07_BodyFields.v0 a0_0 a0_1 a0_2 a0_3 a0_4 a0_5 a0_6 a0_7 a0_8 a0_9 a0_10 a0_11 a0_12 a0_13 a0_14 a0_15 a0_16 a0_17 a0_18 a0_19 a0_20 a0_21 a0_22)), (2, .pointer (some ⟨g4, 0, none⟩)), (1, .int .i64 a1)]) (I := fun x => Below w.heap.size w x ∧ Below w3.heap.size w3 x ∧ Below w10.heap.size w10 x ∧ Below w16.heap.size w16 x) (ps := [VB false]) (by kernel_rfl) ?_ ?_ rfl hS ⟨hBw16_w, hBw16_w3, hBw16_w10, hBw16_w16⟩ ?_ ?_
  · exact fun x y hI hb => ⟨below_step hI.1 hb, below_step hI.2.1 hb, below_step hI.2.2.1 hb, below_step hI.2.2.2 hb⟩
  · exact .v (.nil)
  · refine .on rfl (fun a w hS hI hp => does_val (x_assign rfl (rfl)) rfl) ?_
    exact .nil
  clear hS
  intro at18 w19 hS hI hp
  have hBw19_w := hI.1
  have hBw19_w3 := hI.2.1
  have hBw19_w10 := hI.2.2.1
  have hBw19_w16 := hI.2.2.2
  replace hS := (((hS.nil).cons (hS.get 3 rfl)).cons (hS.get 2 rfl)).cons (hS.get 0 rfl)
  have hBw19_w19 := Below.refl w19.heap.size w19
  clear hp hI
  refine hK17 _ _ ?_
  (try clear hK17 K17)
  refine wp_seq_k (fun K20 hK20 => ?_)
  have J1 : ∀ (aL1 : Act) (wL1 : World) (x1_5_0 x1_5_1 x1_5_2 x1_5_3 x1_5_4 x1_5_5 x1_5_6 x1_5_7 x1_5_8 x1_5_9 x1_5_10 x1_5_11 x1_5_12 x1_5_13 x1_5_14 x1_5_15 x1_5_16 x1_5_17 x1_5_18 x1_5_19 x1_5_20 x1_5_21 x1_5_22 : Int) (gL1_5 : Nat) (x1_6 : Bool), carillonlaw07_BodyFields.j1 k x1_5_0 x1_5_1 x1_5_2 x1_5_3 x1_5_4 x1_5_5 x1_5_6 x1_5_7 x1_5_8 x1_5_9 x1_5_10 x1_5_11 x1_5_12 x1_5_13 x1_5_14 x1_5_15 x1_5_16 x1_5_17 x1_5_18 x1_5_19 x1_5_20 x1_5_21 x1_5_22 x1_6 = some true → St 74 [(5, .pointer (some ⟨gL1_5, 0, none⟩)), (6, .bool x1_6)] aL1 → Below w.heap.size w wL1 → w.heap.size ≤ gL1_5 → wL1.heap[gL1_5]? = some (.cells (carillonlaw07_BodyFields.c1 x1_5_0 x1_5_1 x1_5_2 x1_5_3 x1_5_4 x1_5_5 x1_5_6 x1_5_7 x1_5_8 x1_5_9 x1_5_10 x1_5_11 x1_5_12 x1_5_13 x1_5_14 x1_5_15 x1_5_16 x1_5_17 x1_5_18 x1_5_19 x1_5_20 x1_5_21 x1_5_22) 29 (0, 0)) → K20 aL1 wL1 := by
    intro aL1 wL1 x1_5_0 x1_5_1 x1_5_2 x1_5_3 x1_5_4 x1_5_5 x1_5_6 x1_5_7 x1_5_8 x1_5_9 x1_5_10 x1_5_11 x1_5_12 x1_5_13 x1_5_14 x1_5_15 x1_5_16 x1_5_17 x1_5_18 x1_5_19 x1_5_20 x1_5_21 x1_5_22 gL1_5 x1_6 H hS hBwL1_w hgeLgL1_5 hbxLgL1_5
    unfold carillonlaw07_BodyFields.j1 at H
    (try dsimp only at H)
    obtain ⟨t1002, At1002, H⟩ := Option.bind_eq_some_iff.mp H
    by_cases c3 : (t1002 == x1_6) = true
    rotate_left
    · rw [if_neg c3] at H
      exact absurd H (by simp)
    rw [if_pos c3] at H
    obtain ⟨t1003, At1003, H⟩ := Option.bind_eq_some_iff.mp H
    have hret := Option.some.inj H
    clear H
    have hBwL1_wL1 := Below.refl wL1.heap.size wL1
    refine hK20 _ _ ?_
    (try clear hK20 K20)
    refine wp_seq_k (fun K1001 hK1001 => ?_)
    refine reg_seq (N := 74) (bs := [(5, .pointer (some ⟨gL1_5, 0, none⟩)), (6, .bool x1_6)]) (I := fun x => Below w.heap.size w x ∧ Below wL1.heap.size wL1 x) (ps := [IsV ((carillonlaw07_BodyFields.v0 x1_5_0 x1_5_1 x1_5_2 x1_5_3 x1_5_4 x1_5_5 x1_5_6 x1_5_7 x1_5_8 x1_5_9 x1_5_10 x1_5_11 x1_5_12 x1_5_13 x1_5_14 x1_5_15 x1_5_16 x1_5_17 x1_5_18 x1_5_19 x1_5_20 x1_5_21 x1_5_22)), VB t1002, VB x1_6, VB (t1002 == x1_6), VB (t1002 == x1_6), VB t1003, VB t1003, VB t1003]) (by kernel_rfl) ?_ ?_ rfl hS ⟨hBwL1_w, hBwL1_wL1⟩ ?_ ?_
    · exact fun x y hI hb => ⟨below_step hI.1 hb, below_step hI.2 hb⟩
    · exact .v (.v (.v (.v (.v (.v (.v (.v (.nil))))))))
    · refine .on rfl (fun a w hS hI hp => does_loadrow rfl (hS.get 0 rfl) (((hI.2).block gL1_5 (blk_lt hbxLgL1_5)).trans hbxLgL1_5) Try.underlying29 rfl (by kernel_rfl) rfl) ?_
      refine .on rfl (fun a w hS hI hp => does_call (by kernel_rfl) (ar1 (hp.V 0 rfl rfl)) ((body_Check.calls k x1_5_0 x1_5_1 x1_5_2 x1_5_3 x1_5_4 x1_5_5 x1_5_6 x1_5_7 x1_5_8 x1_5_9 x1_5_10 x1_5_11 x1_5_12 x1_5_13 x1_5_14 x1_5_15 x1_5_16 x1_5_17 x1_5_18 x1_5_19 x1_5_20 x1_5_21 x1_5_22 t1002 _  At1002).mono fun _ _ h => ⟨_, h.1, h.2, rfl⟩)) ?_
      refine .ms 1 rfl rfl rfl ?_
      refine .on rfl (fun a w hS hI hp => does_val (x_bin rfl (hp.V 1 rfl rfl) (hp.V 2 rfl rfl) (b_eqb _ _ _ _ _ (by kernel_rfl))) rfl) ?_
      refine .mv 3 rfl rfl rfl rfl ?_
      refine .oy 4 71 rfl rfl rfl rfl rfl c3 (fun a w hS hI hp => does_call (by kernel_rfl) rfl ((carillonlaw07_awake.calls k  t1003 _  At1003).mono fun _ _ h => ⟨_, h.1, h.2, rfl⟩)) ?_
      refine .pt 4 5 rfl rfl rfl rfl c3 rfl rfl ?_
      refine .asg 6 rfl rfl rfl rfl ?_
      exact .nil
    clear hS
    intro at1004 w1005 hS hI hp
    have hBw1005_w := hI.1
    have hBw1005_wL1 := hI.2
    replace hS := hS.nil
    have hv4 : sl _ 4 = .bool t1003 := hp 7 (by decide)
    have hBw1005_w1005 := Below.refl w1005.heap.size w1005
    have hS := hS.cons hv4
    clear hp hI hv4
    refine hK1001 _ _ ?_
    (try clear hK1001 K1001)
    refine wp_ret ?_
    (try simp only [Exit.then, Exit.inBlock, Exit.jump, Exit.noGoto])
    exact bodyPost_ret (v := .bool true) (by rw [results_tmp rfl]; exact congrArg (Result.ok · _) ((hS.get 0 rfl).trans (congrArg Value.bool hret))) hS.nodef ⟨rfl, hBw1005_w⟩
  obtain ⟨t22, At22, H⟩ := Option.bind_eq_some_iff.mp H
  by_cases c3 : t22 = 0
  · rw [if_pos c3] at H
    by_cases c4 : a0_0 = 12
    · rw [if_pos c4] at H
      refine wp_seq_k (fun K21 hK21 => ?_)
      refine reg_seq (N := 74) (bs := [(5, .pointer (some ⟨g14, 0, none⟩)), (2, .pointer (some ⟨g4, 0, none⟩)), (1, .int .i64 a1)]) (I := fun x => Below w.heap.size w x ∧ Below w3.heap.size w3 x ∧ Below w10.heap.size w10 x ∧ Below w16.heap.size w16 x ∧ Below w19.heap.size w19 x) (ps := [VI a1, VI t22]) (by kernel_rfl) ?_ ?_ rfl hS ⟨hBw19_w, hBw19_w3, hBw19_w10, hBw19_w16, hBw19_w19⟩ ?_ ?_
      · exact fun x y hI hb => ⟨below_step hI.1 hb, below_step hI.2.1 hb, below_step hI.2.2.1 hb, below_step hI.2.2.2.1 hb, below_step hI.2.2.2.2 hb⟩
      · exact .v (.v (.nil))
      · refine .ms 2 rfl rfl rfl ?_
        refine .on rfl (fun a w hS hI hp => does_call (by kernel_rfl) (ar2 (hp.V 0 rfl rfl) (rfl)) ((carillonlaw00_Place.calls a1 4 t22 _  At22).mono fun _ _ h => ⟨_, h.1, h.2.below, rfl⟩)) ?_
        exact .nil
      clear hS
      intro at23 w24 hS hI hp
      have hBw24_w := hI.1
      have hBw24_w3 := hI.2.1
      have hBw24_w10 := hI.2.2.1
      have hBw24_w16 := hI.2.2.2.1
      have hBw24_w19 := hI.2.2.2.2
      replace hS := ((hS.nil).cons (hS.get 1 rfl)).cons (hS.get 0 rfl)
      have hv18 : sl _ 18 = .int .i64 t22 := hp 1 (by decide)
      have hBw24_w24 := Below.refl w24.heap.size w24
      have hS := hS.cons hv18
      clear hp hI hv18
      refine hK21 _ _ ?_
      (try clear hK21 K21)
      refine wp_block ?_
      refine wp_seq_k (fun K25 hK25 => ?_)
      refine reg_seq (N := 74) (bs := [(18, .int .i64 t22), (5, .pointer (some ⟨g14, 0, none⟩)), (2, .pointer (some ⟨g4, 0, none⟩))]) (I := fun x => Below w.heap.size w x ∧ Below w3.heap.size w3 x ∧ Below w10.heap.size w10 x ∧ Below w16.heap.size w16 x ∧ Below w24.heap.size w24 x) (ps := [VB (decide (t22 = 0)), VB (decide (t22 = 0))]) (by kernel_rfl) ?_ ?_ rfl hS ⟨hBw24_w, hBw24_w3, hBw24_w10, hBw24_w16, hBw24_w24⟩ ?_ ?_
      · exact fun x y hI hb => ⟨below_step hI.1 hb, below_step hI.2.1 hb, below_step hI.2.2.1 hb, below_step hI.2.2.2.1 hb, below_step hI.2.2.2.2 hb⟩
      · exact .v (.v (.nil))
      · refine .on rfl (fun a w hS hI hp => does_val (x_bin rfl (hS.get 0 rfl) (rfl) (b_eql _ _ _ _ _ _)) rfl) ?_
        refine .asg 0 rfl rfl rfl rfl ?_
        exact .nil
      clear hS
      intro at26 w27 hS hI hp
      have hBw27_w := hI.1
      have hBw27_w3 := hI.2.1
      have hBw27_w10 := hI.2.2.1
      have hBw27_w16 := hI.2.2.2.1
      have hBw27_w24 := hI.2.2.2.2
      have hv23 : sl _ 23 = .bool (decide (t22 = 0)) := hp 1 (by decide)
      have hBw27_w27 := Below.refl w27.heap.size w27
      have hS := hS.cons hv23
      clear hp hI hv23
      refine hK25 _ _ ?_
      (try clear hK25 K25)
      refine wp_cond_true ((hS.get 0 rfl).trans (bT (decide_eq_true c3))) ?_
      refine wp_seq_k (fun K28 hK28 => ?_)
      refine reg_seq_tail 1 (N := 74) (bs := [(23, .bool (decide (t22 = 0))), (18, .int .i64 t22), (5, .pointer (some ⟨g14, 0, none⟩)), (2, .pointer (some ⟨g4, 0, none⟩))]) (I := fun x => Below w.heap.size w x ∧ Below w3.heap.size w3 x ∧ Below w10.heap.size w10 x ∧ Below w16.heap.size w16 x ∧ Below w27.heap.size w27 x) (ps := [VP g14 8]) (by kernel_rfl) ?_ ?_ rfl hS ⟨hBw27_w, hBw27_w3, hBw27_w10, hBw27_w16, hBw27_w27⟩ ?_ ?_
      · exact fun x y hI hb => ⟨below_step hI.1 hb, below_step hI.2.1 hb, below_step hI.2.2.1 hb, below_step hI.2.2.2.1 hb, below_step hI.2.2.2.2 hb⟩
      · exact .v (.nil)
      · refine .on rfl (fun a w hS hI hp => does_val (x_fieldE (b := 0) rfl (hS.get 2 rfl) Try.underlying29 rfl rfl (by kernel_rfl)) rfl) ?_
        exact .nil
      clear hS
      intro at29 w30 hS hI hp
      have hBw30_w := hI.1
      have hBw30_w3 := hI.2.1
      have hBw30_w10 := hI.2.2.1
      have hBw30_w16 := hI.2.2.2.1
      have hBw30_w27 := hI.2.2.2.2
      replace hS := ((hS.nil).cons (hS.get 3 rfl)).cons (hS.get 2 rfl)
      have hv25 : sl _ 25 = .pointer (some ⟨g14, 8, none⟩) := hp 0 (by decide)
      have hBw30_w30 := Below.refl w30.heap.size w30
      have hS := hS.cons hv25
      clear hp hI hv25
      show wpList _ _ _ [_] _ _
      refine list_step rfl (does_store (g := g14) (off := 8) (v := .int .i64 5) (new := (carillonlaw07_BodyFields.c1 a0_0 a0_1 a0_2 a0_3 a0_4 a0_5 a0_6 a0_7 5 a0_9 a0_10 a0_11 a0_12 a0_13 a0_14 a0_15 a0_16 a0_17 a0_18 a0_19 a0_20 a0_21 a0_22)) rfl (hS.get 0 rfl) (rfl) ((hBw30_w16.block g14 (blk_lt hbxw16)).trans hbxw16) (by kernel_rfl) (by kernel_rfl) (by kernel_rfl) (by kernel_rfl)) ?_
      rintro vw31 w31 ⟨rfl, hbxw31, hT⟩
      have hBw31_w := hT.below hBw30_w (Nat.le_trans (hBw10_w).size hgeg14) (hBw30_w).size
      have hBw31_w3 := hT.below hBw30_w3 (Nat.le_trans (hBw10_w3).size hgeg14) (hBw30_w3).size
      have hBw31_w10 := hT.below hBw30_w10 hgeg14 (hBw30_w10).size
      have hBw31_w31 := Below.refl w31.heap.size w31
      clear hT
      refine wpList_nil ?_
      refine hK28 _ _ ?_
      (try clear hK28 K28)
      refine reg_seq (N := 74) (bs := [(25, .pointer (some ⟨g14, 8, none⟩)), (5, .pointer (some ⟨g14, 0, none⟩)), (2, .pointer (some ⟨g4, 0, none⟩))]) (I := fun x => Below w.heap.size w x ∧ Below w3.heap.size w3 x ∧ Below w10.heap.size w10 x ∧ Below w31.heap.size w31 x) (ps := [VP g4 0, VI a0_0, VB (!decide (a0_0 = 12)), VB (!decide (a0_0 = 12)), VU, VU, VU, VB false, VB false]) (by kernel_rfl) ?_ ?_ rfl hS ⟨hBw31_w, hBw31_w3, hBw31_w10, hBw31_w31⟩ ?_ ?_
      · exact fun x y hI hb => ⟨below_step hI.1 hb, below_step hI.2.1 hb, below_step hI.2.2.1 hb, below_step hI.2.2.2 hb⟩
      · exact .v (.v (.v (.v (.v (.v (.v (.v (.v (.nil)))))))))
      · refine .on rfl (fun a w hS hI hp => does_val (x_fieldE (b := 0) rfl (hS.get 2 rfl) Try.underlying29 rfl rfl (by kernel_rfl)) rfl) ?_
        refine .on rfl (fun a w hS hI hp => does_val (x_load1 (d := .int .i64) rfl (hp.V 0 rfl rfl) (by kernel_rfl) rfl ((blk_cell (((hI.2.1).block g4 (blk_lt hbxg4)).trans hbxg4) 0).trans rfl)) rfl) ?_
        refine .on rfl (fun a w hS hI hp => does_val (x_bin rfl (hp.V 1 rfl rfl) (rfl) (b_neq _ _ _ _ _ _)) rfl) ?_
        refine .mv 2 rfl rfl rfl rfl ?_
        iterate 3 refine .sn 3 29 rfl rfl rfl rfl rfl ((congrArg (!·) (decide_eq_true c4))) ?_
        refine .pf 3 rfl rfl rfl rfl ((congrArg (!·) (decide_eq_true c4))) (fun _ => rfl) ?_
        refine .asg 7 rfl rfl rfl rfl ?_
        exact .nil
      clear hS
      intro at32 w33 hS hI hp
      have hBw33_w := hI.1
      have hBw33_w3 := hI.2.1
      have hBw33_w10 := hI.2.2.1
      have hBw33_w31 := hI.2.2.2
      replace hS := (hS.nil).cons (hS.get 1 rfl)
      have hv6 : sl _ 6 = .bool false := hp 8 (by decide)
      have hBw33_w33 := Below.refl w33.heap.size w33
      have hS := hS.cons hv6
      clear hp hI hv6
      replace hS := ((hS.nil).cons (hS.get 0 rfl)).cons (hS.get 1 rfl)
      (try simp only [Exit.then, Exit.inBlock])
      exact J1 _ _ a0_0 a0_1 a0_2 a0_3 a0_4 a0_5 a0_6 a0_7 5 a0_9 a0_10 a0_11 a0_12 a0_13 a0_14 a0_15 a0_16 a0_17 a0_18 a0_19 a0_20 a0_21 a0_22 g14 false H hS hBw33_w (Nat.le_trans (hBw10_w).size hgeg14) ((hBw33_w31.block g14 (blk_lt hbxw31)).trans hbxw31)
    rw [if_neg c4] at H
    refine wp_seq_k (fun K21 hK21 => ?_)
    refine reg_seq (N := 74) (bs := [(5, .pointer (some ⟨g14, 0, none⟩)), (2, .pointer (some ⟨g4, 0, none⟩)), (1, .int .i64 a1)]) (I := fun x => Below w.heap.size w x ∧ Below w3.heap.size w3 x ∧ Below w10.heap.size w10 x ∧ Below w16.heap.size w16 x ∧ Below w19.heap.size w19 x) (ps := [VI a1, VI t22]) (by kernel_rfl) ?_ ?_ rfl hS ⟨hBw19_w, hBw19_w3, hBw19_w10, hBw19_w16, hBw19_w19⟩ ?_ ?_
    · exact fun x y hI hb => ⟨below_step hI.1 hb, below_step hI.2.1 hb, below_step hI.2.2.1 hb, below_step hI.2.2.2.1 hb, below_step hI.2.2.2.2 hb⟩
    · exact .v (.v (.nil))
    · refine .ms 2 rfl rfl rfl ?_
      refine .on rfl (fun a w hS hI hp => does_call (by kernel_rfl) (ar2 (hp.V 0 rfl rfl) (rfl)) ((carillonlaw00_Place.calls a1 4 t22 _  At22).mono fun _ _ h => ⟨_, h.1, h.2.below, rfl⟩)) ?_
      exact .nil
    clear hS
    intro at23 w24 hS hI hp
    have hBw24_w := hI.1
    have hBw24_w3 := hI.2.1
    have hBw24_w10 := hI.2.2.1
    have hBw24_w16 := hI.2.2.2.1
    have hBw24_w19 := hI.2.2.2.2
    replace hS := ((hS.nil).cons (hS.get 1 rfl)).cons (hS.get 0 rfl)
    have hv18 : sl _ 18 = .int .i64 t22 := hp 1 (by decide)
    have hBw24_w24 := Below.refl w24.heap.size w24
    have hS := hS.cons hv18
    clear hp hI hv18
    refine hK21 _ _ ?_
    (try clear hK21 K21)
    refine wp_block ?_
    refine wp_seq_k (fun K25 hK25 => ?_)
    refine reg_seq (N := 74) (bs := [(18, .int .i64 t22), (5, .pointer (some ⟨g14, 0, none⟩)), (2, .pointer (some ⟨g4, 0, none⟩))]) (I := fun x => Below w.heap.size w x ∧ Below w3.heap.size w3 x ∧ Below w10.heap.size w10 x ∧ Below w16.heap.size w16 x ∧ Below w24.heap.size w24 x) (ps := [VB (decide (t22 = 0)), VB (decide (t22 = 0))]) (by kernel_rfl) ?_ ?_ rfl hS ⟨hBw24_w, hBw24_w3, hBw24_w10, hBw24_w16, hBw24_w24⟩ ?_ ?_
    · exact fun x y hI hb => ⟨below_step hI.1 hb, below_step hI.2.1 hb, below_step hI.2.2.1 hb, below_step hI.2.2.2.1 hb, below_step hI.2.2.2.2 hb⟩
    · exact .v (.v (.nil))
    · refine .on rfl (fun a w hS hI hp => does_val (x_bin rfl (hS.get 0 rfl) (rfl) (b_eql _ _ _ _ _ _)) rfl) ?_
      refine .asg 0 rfl rfl rfl rfl ?_
      exact .nil
    clear hS
    intro at26 w27 hS hI hp
    have hBw27_w := hI.1
    have hBw27_w3 := hI.2.1
    have hBw27_w10 := hI.2.2.1
    have hBw27_w16 := hI.2.2.2.1
    have hBw27_w24 := hI.2.2.2.2
    have hv23 : sl _ 23 = .bool (decide (t22 = 0)) := hp 1 (by decide)
    have hBw27_w27 := Below.refl w27.heap.size w27
    have hS := hS.cons hv23
    clear hp hI hv23
    refine hK25 _ _ ?_
    (try clear hK25 K25)
    refine wp_cond_true ((hS.get 0 rfl).trans (bT (decide_eq_true c3))) ?_
    refine wp_seq_k (fun K28 hK28 => ?_)
    refine reg_seq_tail 1 (N := 74) (bs := [(23, .bool (decide (t22 = 0))), (18, .int .i64 t22), (5, .pointer (some ⟨g14, 0, none⟩)), (2, .pointer (some ⟨g4, 0, none⟩))]) (I := fun x => Below w.heap.size w x ∧ Below w3.heap.size w3 x ∧ Below w10.heap.size w10 x ∧ Below w16.heap.size w16 x ∧ Below w27.heap.size w27 x) (ps := [VP g14 8]) (by kernel_rfl) ?_ ?_ rfl hS ⟨hBw27_w, hBw27_w3, hBw27_w10, hBw27_w16, hBw27_w27⟩ ?_ ?_
    · exact fun x y hI hb => ⟨below_step hI.1 hb, below_step hI.2.1 hb, below_step hI.2.2.1 hb, below_step hI.2.2.2.1 hb, below_step hI.2.2.2.2 hb⟩
    · exact .v (.nil)
    · refine .on rfl (fun a w hS hI hp => does_val (x_fieldE (b := 0) rfl (hS.get 2 rfl) Try.underlying29 rfl rfl (by kernel_rfl)) rfl) ?_
      exact .nil
    clear hS
    intro at29 w30 hS hI hp
    have hBw30_w := hI.1
    have hBw30_w3 := hI.2.1
    have hBw30_w10 := hI.2.2.1
    have hBw30_w16 := hI.2.2.2.1
    have hBw30_w27 := hI.2.2.2.2
    replace hS := ((hS.nil).cons (hS.get 3 rfl)).cons (hS.get 2 rfl)
    have hv25 : sl _ 25 = .pointer (some ⟨g14, 8, none⟩) := hp 0 (by decide)
    have hBw30_w30 := Below.refl w30.heap.size w30
    have hS := hS.cons hv25
    clear hp hI hv25
    show wpList _ _ _ [_] _ _
    refine list_step rfl (does_store (g := g14) (off := 8) (v := .int .i64 5) (new := (carillonlaw07_BodyFields.c1 a0_0 a0_1 a0_2 a0_3 a0_4 a0_5 a0_6 a0_7 5 a0_9 a0_10 a0_11 a0_12 a0_13 a0_14 a0_15 a0_16 a0_17 a0_18 a0_19 a0_20 a0_21 a0_22)) rfl (hS.get 0 rfl) (rfl) ((hBw30_w16.block g14 (blk_lt hbxw16)).trans hbxw16) (by kernel_rfl) (by kernel_rfl) (by kernel_rfl) (by kernel_rfl)) ?_
    rintro vw31 w31 ⟨rfl, hbxw31, hT⟩
    have hBw31_w := hT.below hBw30_w (Nat.le_trans (hBw10_w).size hgeg14) (hBw30_w).size
    have hBw31_w3 := hT.below hBw30_w3 (Nat.le_trans (hBw10_w3).size hgeg14) (hBw30_w3).size
    have hBw31_w10 := hT.below hBw30_w10 hgeg14 (hBw30_w10).size
    have hBw31_w31 := Below.refl w31.heap.size w31
    clear hT
    refine wpList_nil ?_
    refine hK28 _ _ ?_
    (try clear hK28 K28)
    refine reg_seq (N := 74) (bs := [(25, .pointer (some ⟨g14, 8, none⟩)), (5, .pointer (some ⟨g14, 0, none⟩)), (2, .pointer (some ⟨g4, 0, none⟩))]) (I := fun x => Below w.heap.size w x ∧ Below w3.heap.size w3 x ∧ Below w10.heap.size w10 x ∧ Below w31.heap.size w31 x) (ps := [VP g4 0, VI a0_0, VB (!decide (a0_0 = 12)), VB (!decide (a0_0 = 12)), VP g4 0, VI a0_0, VB (!decide (a0_0 = 13)), VB (!decide (a0_0 = 13)), VB (!decide (a0_0 = 13))]) (by kernel_rfl) ?_ ?_ rfl hS ⟨hBw31_w, hBw31_w3, hBw31_w10, hBw31_w31⟩ ?_ ?_
    · exact fun x y hI hb => ⟨below_step hI.1 hb, below_step hI.2.1 hb, below_step hI.2.2.1 hb, below_step hI.2.2.2 hb⟩
    · exact .v (.v (.v (.v (.v (.v (.v (.v (.v (.nil)))))))))
    · refine .on rfl (fun a w hS hI hp => does_val (x_fieldE (b := 0) rfl (hS.get 2 rfl) Try.underlying29 rfl rfl (by kernel_rfl)) rfl) ?_
      refine .on rfl (fun a w hS hI hp => does_val (x_load1 (d := .int .i64) rfl (hp.V 0 rfl rfl) (by kernel_rfl) rfl ((blk_cell (((hI.2.1).block g4 (blk_lt hbxg4)).trans hbxg4) 0).trans rfl)) rfl) ?_
      refine .on rfl (fun a w hS hI hp => does_val (x_bin rfl (hp.V 1 rfl rfl) (rfl) (b_neq _ _ _ _ _ _)) rfl) ?_
      refine .mv 2 rfl rfl rfl rfl ?_
      refine .oy 3 29 rfl rfl rfl rfl rfl ((congrArg (!·) (decide_eq_false c4))) (fun a w hS hI hp => does_val (x_fieldE (b := 0) rfl (hS.get 2 rfl) Try.underlying29 rfl rfl (by kernel_rfl)) rfl) ?_
      refine .oy 3 29 rfl rfl rfl rfl rfl ((congrArg (!·) (decide_eq_false c4))) (fun a w hS hI hp => does_val (x_load1 (d := .int .i64) rfl (hp.V 4 rfl rfl) (by kernel_rfl) rfl ((blk_cell (((hI.2.1).block g4 (blk_lt hbxg4)).trans hbxg4) 0).trans rfl)) rfl) ?_
      refine .oy 3 29 rfl rfl rfl rfl rfl ((congrArg (!·) (decide_eq_false c4))) (fun a w hS hI hp => does_val (x_bin rfl (hp.V 5 rfl rfl) (rfl) (b_neq _ _ _ _ _ _)) rfl) ?_
      refine .pt 3 6 rfl rfl rfl rfl ((congrArg (!·) (decide_eq_false c4))) rfl rfl ?_
      refine .asg 7 rfl rfl rfl rfl ?_
      exact .nil
    clear hS
    intro at32 w33 hS hI hp
    have hBw33_w := hI.1
    have hBw33_w3 := hI.2.1
    have hBw33_w10 := hI.2.2.1
    have hBw33_w31 := hI.2.2.2
    replace hS := (hS.nil).cons (hS.get 1 rfl)
    have hv6 : sl _ 6 = .bool (!decide (a0_0 = 13)) := hp 8 (by decide)
    have hBw33_w33 := Below.refl w33.heap.size w33
    have hS := hS.cons hv6
    clear hp hI hv6
    replace hS := ((hS.nil).cons (hS.get 0 rfl)).cons (hS.get 1 rfl)
    (try simp only [Exit.then, Exit.inBlock])
    exact J1 _ _ a0_0 a0_1 a0_2 a0_3 a0_4 a0_5 a0_6 a0_7 5 a0_9 a0_10 a0_11 a0_12 a0_13 a0_14 a0_15 a0_16 a0_17 a0_18 a0_19 a0_20 a0_21 a0_22 g14 (!decide (a0_0 = 13)) H hS hBw33_w (Nat.le_trans (hBw10_w).size hgeg14) ((hBw33_w31.block g14 (blk_lt hbxw31)).trans hbxw31)
  rw [if_neg c3] at H
  by_cases c4 : t22 = 1
  rotate_left
  · rw [if_neg c4] at H
    by_cases c5 : t22 = 2
    · rw [if_pos c5] at H
      refine wp_seq_k (fun K21 hK21 => ?_)
      refine reg_seq (N := 74) (bs := [(5, .pointer (some ⟨g14, 0, none⟩)), (2, .pointer (some ⟨g4, 0, none⟩)), (1, .int .i64 a1)]) (I := fun x => Below w.heap.size w x ∧ Below w3.heap.size w3 x ∧ Below w10.heap.size w10 x ∧ Below w16.heap.size w16 x ∧ Below w19.heap.size w19 x) (ps := [VI a1, VI t22]) (by kernel_rfl) ?_ ?_ rfl hS ⟨hBw19_w, hBw19_w3, hBw19_w10, hBw19_w16, hBw19_w19⟩ ?_ ?_
      · exact fun x y hI hb => ⟨below_step hI.1 hb, below_step hI.2.1 hb, below_step hI.2.2.1 hb, below_step hI.2.2.2.1 hb, below_step hI.2.2.2.2 hb⟩
      · exact .v (.v (.nil))
      · refine .ms 2 rfl rfl rfl ?_
        refine .on rfl (fun a w hS hI hp => does_call (by kernel_rfl) (ar2 (hp.V 0 rfl rfl) (rfl)) ((carillonlaw00_Place.calls a1 4 t22 _  At22).mono fun _ _ h => ⟨_, h.1, h.2.below, rfl⟩)) ?_
        exact .nil
      clear hS
      intro at23 w24 hS hI hp
      have hBw24_w := hI.1
      have hBw24_w3 := hI.2.1
      have hBw24_w10 := hI.2.2.1
      have hBw24_w16 := hI.2.2.2.1
      have hBw24_w19 := hI.2.2.2.2
      replace hS := ((hS.nil).cons (hS.get 1 rfl)).cons (hS.get 0 rfl)
      have hv18 : sl _ 18 = .int .i64 t22 := hp 1 (by decide)
      have hBw24_w24 := Below.refl w24.heap.size w24
      have hS := hS.cons hv18
      clear hp hI hv18
      refine hK21 _ _ ?_
      (try clear hK21 K21)
      refine wp_block ?_
      refine wp_seq_k (fun K25 hK25 => ?_)
      refine reg_seq (N := 74) (bs := [(18, .int .i64 t22), (5, .pointer (some ⟨g14, 0, none⟩)), (2, .pointer (some ⟨g4, 0, none⟩))]) (I := fun x => Below w.heap.size w x ∧ Below w3.heap.size w3 x ∧ Below w10.heap.size w10 x ∧ Below w16.heap.size w16 x ∧ Below w24.heap.size w24 x) (ps := [VB (decide (t22 = 0)), VB (decide (t22 = 0))]) (by kernel_rfl) ?_ ?_ rfl hS ⟨hBw24_w, hBw24_w3, hBw24_w10, hBw24_w16, hBw24_w24⟩ ?_ ?_
      · exact fun x y hI hb => ⟨below_step hI.1 hb, below_step hI.2.1 hb, below_step hI.2.2.1 hb, below_step hI.2.2.2.1 hb, below_step hI.2.2.2.2 hb⟩
      · exact .v (.v (.nil))
      · refine .on rfl (fun a w hS hI hp => does_val (x_bin rfl (hS.get 0 rfl) (rfl) (b_eql _ _ _ _ _ _)) rfl) ?_
        refine .asg 0 rfl rfl rfl rfl ?_
        exact .nil
      clear hS
      intro at26 w27 hS hI hp
      have hBw27_w := hI.1
      have hBw27_w3 := hI.2.1
      have hBw27_w10 := hI.2.2.1
      have hBw27_w16 := hI.2.2.2.1
      have hBw27_w24 := hI.2.2.2.2
      have hv23 : sl _ 23 = .bool (decide (t22 = 0)) := hp 1 (by decide)
      have hBw27_w27 := Below.refl w27.heap.size w27
      have hS := hS.cons hv23
      clear hp hI hv23
      refine hK25 _ _ ?_
      (try clear hK25 K25)
      refine wp_cond_false ((hS.get 0 rfl).trans (bF (decide_eq_false c3))) ?_
      refine wp_seq_k (fun K28 hK28 => ?_)
      refine reg_seq (N := 74) (bs := [(23, .bool (decide (t22 = 0))), (18, .int .i64 t22), (5, .pointer (some ⟨g14, 0, none⟩)), (2, .pointer (some ⟨g4, 0, none⟩))]) (I := fun x => Below w.heap.size w x ∧ Below w3.heap.size w3 x ∧ Below w10.heap.size w10 x ∧ Below w16.heap.size w16 x ∧ Below w27.heap.size w27 x) (ps := [VB (decide (t22 = 1)), VB (decide (t22 = 1))]) (by kernel_rfl) ?_ ?_ rfl hS ⟨hBw27_w, hBw27_w3, hBw27_w10, hBw27_w16, hBw27_w27⟩ ?_ ?_
      · exact fun x y hI hb => ⟨below_step hI.1 hb, below_step hI.2.1 hb, below_step hI.2.2.1 hb, below_step hI.2.2.2.1 hb, below_step hI.2.2.2.2 hb⟩
      · exact .v (.v (.nil))
      · refine .on rfl (fun a w hS hI hp => does_val (x_bin rfl (hS.get 1 rfl) (rfl) (b_eql _ _ _ _ _ _)) rfl) ?_
        refine .asg 0 rfl rfl rfl rfl ?_
        exact .nil
      clear hS
      intro at29 w30 hS hI hp
      have hBw30_w := hI.1
      have hBw30_w3 := hI.2.1
      have hBw30_w10 := hI.2.2.1
      have hBw30_w16 := hI.2.2.2.1
      have hBw30_w27 := hI.2.2.2.2
      replace hS := (((hS.nil).cons (hS.get 3 rfl)).cons (hS.get 2 rfl)).cons (hS.get 1 rfl)
      have hv34 : sl _ 34 = .bool (decide (t22 = 1)) := hp 1 (by decide)
      have hBw30_w30 := Below.refl w30.heap.size w30
      have hS := hS.cons hv34
      clear hp hI hv34
      refine hK28 _ _ ?_
      (try clear hK28 K28)
      refine wp_cond_false ((hS.get 0 rfl).trans (bF (decide_eq_false c4))) ?_
      refine wp_seq_k (fun K31 hK31 => ?_)
      refine reg_seq (N := 74) (bs := [(34, .bool (decide (t22 = 1))), (18, .int .i64 t22), (5, .pointer (some ⟨g14, 0, none⟩)), (2, .pointer (some ⟨g4, 0, none⟩))]) (I := fun x => Below w.heap.size w x ∧ Below w3.heap.size w3 x ∧ Below w10.heap.size w10 x ∧ Below w16.heap.size w16 x ∧ Below w30.heap.size w30 x) (ps := [VB (decide (t22 = 2)), VB (decide (t22 = 2))]) (by kernel_rfl) ?_ ?_ rfl hS ⟨hBw30_w, hBw30_w3, hBw30_w10, hBw30_w16, hBw30_w30⟩ ?_ ?_
      · exact fun x y hI hb => ⟨below_step hI.1 hb, below_step hI.2.1 hb, below_step hI.2.2.1 hb, below_step hI.2.2.2.1 hb, below_step hI.2.2.2.2 hb⟩
      · exact .v (.v (.nil))
      · refine .on rfl (fun a w hS hI hp => does_val (x_bin rfl (hS.get 1 rfl) (rfl) (b_eql _ _ _ _ _ _)) rfl) ?_
        refine .asg 0 rfl rfl rfl rfl ?_
        exact .nil
      clear hS
      intro at32 w33 hS hI hp
      have hBw33_w := hI.1
      have hBw33_w3 := hI.2.1
      have hBw33_w10 := hI.2.2.1
      have hBw33_w16 := hI.2.2.2.1
      have hBw33_w30 := hI.2.2.2.2
      replace hS := ((hS.nil).cons (hS.get 3 rfl)).cons (hS.get 2 rfl)
      have hv61 : sl _ 61 = .bool (decide (t22 = 2)) := hp 1 (by decide)
      have hBw33_w33 := Below.refl w33.heap.size w33
      have hS := hS.cons hv61
      clear hp hI hv61
      refine hK31 _ _ ?_
      (try clear hK31 K31)
      refine wp_cond_true ((hS.get 0 rfl).trans (bT (decide_eq_true c5))) ?_
      refine wp_seq_k (fun K34 hK34 => ?_)
      refine reg_seq_tail 1 (N := 74) (bs := [(61, .bool (decide (t22 = 2))), (5, .pointer (some ⟨g14, 0, none⟩)), (2, .pointer (some ⟨g4, 0, none⟩))]) (I := fun x => Below w.heap.size w x ∧ Below w3.heap.size w3 x ∧ Below w10.heap.size w10 x ∧ Below w16.heap.size w16 x ∧ Below w33.heap.size w33 x) (ps := [VP g14 18]) (by kernel_rfl) ?_ ?_ rfl hS ⟨hBw33_w, hBw33_w3, hBw33_w10, hBw33_w16, hBw33_w33⟩ ?_ ?_
      · exact fun x y hI hb => ⟨below_step hI.1 hb, below_step hI.2.1 hb, below_step hI.2.2.1 hb, below_step hI.2.2.2.1 hb, below_step hI.2.2.2.2 hb⟩
      · exact .v (.nil)
      · refine .on rfl (fun a w hS hI hp => does_val (x_fieldE (b := 0) rfl (hS.get 1 rfl) Try.underlying29 rfl rfl (by kernel_rfl)) rfl) ?_
        exact .nil
      clear hS
      intro at35 w36 hS hI hp
      have hBw36_w := hI.1
      have hBw36_w3 := hI.2.1
      have hBw36_w10 := hI.2.2.1
      have hBw36_w16 := hI.2.2.2.1
      have hBw36_w33 := hI.2.2.2.2
      replace hS := ((hS.nil).cons (hS.get 2 rfl)).cons (hS.get 1 rfl)
      have hv63 : sl _ 63 = .pointer (some ⟨g14, 18, none⟩) := hp 0 (by decide)
      have hBw36_w36 := Below.refl w36.heap.size w36
      have hS := hS.cons hv63
      clear hp hI hv63
      show wpList _ _ _ [_] _ _
      refine list_step rfl (does_store (g := g14) (off := 18) (v := .int .i64 3) (new := (carillonlaw07_BodyFields.c1 a0_0 a0_1 a0_2 a0_3 a0_4 a0_5 a0_6 a0_7 a0_8 a0_9 a0_10 a0_11 a0_12 a0_13 a0_14 a0_15 a0_16 a0_17 3 a0_19 a0_20 a0_21 a0_22)) rfl (hS.get 0 rfl) (rfl) ((hBw36_w16.block g14 (blk_lt hbxw16)).trans hbxw16) (by kernel_rfl) (by kernel_rfl) (by kernel_rfl) (by kernel_rfl)) ?_
      rintro vw37 w37 ⟨rfl, hbxw37, hT⟩
      have hBw37_w := hT.below hBw36_w (Nat.le_trans (hBw10_w).size hgeg14) (hBw36_w).size
      have hBw37_w3 := hT.below hBw36_w3 (Nat.le_trans (hBw10_w3).size hgeg14) (hBw36_w3).size
      have hBw37_w10 := hT.below hBw36_w10 hgeg14 (hBw36_w10).size
      have hBw37_w37 := Below.refl w37.heap.size w37
      clear hT
      refine wpList_nil ?_
      refine hK34 _ _ ?_
      (try clear hK34 K34)
      refine reg_seq (N := 74) (bs := [(63, .pointer (some ⟨g14, 18, none⟩)), (5, .pointer (some ⟨g14, 0, none⟩)), (2, .pointer (some ⟨g4, 0, none⟩))]) (I := fun x => Below w.heap.size w x ∧ Below w3.heap.size w3 x ∧ Below w10.heap.size w10 x ∧ Below w37.heap.size w37 x) (ps := [VP g4 0, VI a0_0, VB (decide (a0_0 = 11)), VB (decide (a0_0 = 11))]) (by kernel_rfl) ?_ ?_ rfl hS ⟨hBw37_w, hBw37_w3, hBw37_w10, hBw37_w37⟩ ?_ ?_
      · exact fun x y hI hb => ⟨below_step hI.1 hb, below_step hI.2.1 hb, below_step hI.2.2.1 hb, below_step hI.2.2.2 hb⟩
      · exact .v (.v (.v (.v (.nil))))
      · refine .on rfl (fun a w hS hI hp => does_val (x_fieldE (b := 0) rfl (hS.get 2 rfl) Try.underlying29 rfl rfl (by kernel_rfl)) rfl) ?_
        refine .on rfl (fun a w hS hI hp => does_val (x_load1 (d := .int .i64) rfl (hp.V 0 rfl rfl) (by kernel_rfl) rfl ((blk_cell (((hI.2.1).block g4 (blk_lt hbxg4)).trans hbxg4) 0).trans rfl)) rfl) ?_
        refine .on rfl (fun a w hS hI hp => does_val (x_bin rfl (hp.V 1 rfl rfl) (rfl) (b_eql _ _ _ _ _ _)) rfl) ?_
        refine .asg 2 rfl rfl rfl rfl ?_
        exact .nil
      clear hS
      intro at38 w39 hS hI hp
      have hBw39_w := hI.1
      have hBw39_w3 := hI.2.1
      have hBw39_w10 := hI.2.2.1
      have hBw39_w37 := hI.2.2.2
      replace hS := (hS.nil).cons (hS.get 1 rfl)
      have hv6 : sl _ 6 = .bool (decide (a0_0 = 11)) := hp 3 (by decide)
      have hBw39_w39 := Below.refl w39.heap.size w39
      have hS := hS.cons hv6
      clear hp hI hv6
      replace hS := ((hS.nil).cons (hS.get 0 rfl)).cons (hS.get 1 rfl)
      (try simp only [Exit.then, Exit.inBlock])
      exact J1 _ _ a0_0 a0_1 a0_2 a0_3 a0_4 a0_5 a0_6 a0_7 a0_8 a0_9 a0_10 a0_11 a0_12 a0_13 a0_14 a0_15 a0_16 a0_17 3 a0_19 a0_20 a0_21 a0_22 g14 (decide (a0_0 = 11)) H hS hBw39_w (Nat.le_trans (hBw10_w).size hgeg14) ((hBw39_w37.block g14 (blk_lt hbxw37)).trans hbxw37)
    rw [if_neg c5] at H
    refine wp_seq_k (fun K21 hK21 => ?_)
    refine reg_seq (N := 74) (bs := [(5, .pointer (some ⟨g14, 0, none⟩)), (2, .pointer (some ⟨g4, 0, none⟩)), (1, .int .i64 a1)]) (I := fun x => Below w.heap.size w x ∧ Below w3.heap.size w3 x ∧ Below w10.heap.size w10 x ∧ Below w16.heap.size w16 x ∧ Below w19.heap.size w19 x) (ps := [VI a1, VI t22]) (by kernel_rfl) ?_ ?_ rfl hS ⟨hBw19_w, hBw19_w3, hBw19_w10, hBw19_w16, hBw19_w19⟩ ?_ ?_
    · exact fun x y hI hb => ⟨below_step hI.1 hb, below_step hI.2.1 hb, below_step hI.2.2.1 hb, below_step hI.2.2.2.1 hb, below_step hI.2.2.2.2 hb⟩
    · exact .v (.v (.nil))
    · refine .ms 2 rfl rfl rfl ?_
      refine .on rfl (fun a w hS hI hp => does_call (by kernel_rfl) (ar2 (hp.V 0 rfl rfl) (rfl)) ((carillonlaw00_Place.calls a1 4 t22 _  At22).mono fun _ _ h => ⟨_, h.1, h.2.below, rfl⟩)) ?_
      exact .nil
    clear hS
    intro at23 w24 hS hI hp
    have hBw24_w := hI.1
    have hBw24_w3 := hI.2.1
    have hBw24_w10 := hI.2.2.1
    have hBw24_w16 := hI.2.2.2.1
    have hBw24_w19 := hI.2.2.2.2
    replace hS := ((hS.nil).cons (hS.get 1 rfl)).cons (hS.get 0 rfl)
    have hv18 : sl _ 18 = .int .i64 t22 := hp 1 (by decide)
    have hBw24_w24 := Below.refl w24.heap.size w24
    have hS := hS.cons hv18
    clear hp hI hv18
    refine hK21 _ _ ?_
    (try clear hK21 K21)
    refine wp_block ?_
    refine wp_seq_k (fun K25 hK25 => ?_)
    refine reg_seq (N := 74) (bs := [(18, .int .i64 t22), (5, .pointer (some ⟨g14, 0, none⟩)), (2, .pointer (some ⟨g4, 0, none⟩))]) (I := fun x => Below w.heap.size w x ∧ Below w3.heap.size w3 x ∧ Below w10.heap.size w10 x ∧ Below w16.heap.size w16 x ∧ Below w24.heap.size w24 x) (ps := [VB (decide (t22 = 0)), VB (decide (t22 = 0))]) (by kernel_rfl) ?_ ?_ rfl hS ⟨hBw24_w, hBw24_w3, hBw24_w10, hBw24_w16, hBw24_w24⟩ ?_ ?_
    · exact fun x y hI hb => ⟨below_step hI.1 hb, below_step hI.2.1 hb, below_step hI.2.2.1 hb, below_step hI.2.2.2.1 hb, below_step hI.2.2.2.2 hb⟩
    · exact .v (.v (.nil))
    · refine .on rfl (fun a w hS hI hp => does_val (x_bin rfl (hS.get 0 rfl) (rfl) (b_eql _ _ _ _ _ _)) rfl) ?_
      refine .asg 0 rfl rfl rfl rfl ?_
      exact .nil
    clear hS
    intro at26 w27 hS hI hp
    have hBw27_w := hI.1
    have hBw27_w3 := hI.2.1
    have hBw27_w10 := hI.2.2.1
    have hBw27_w16 := hI.2.2.2.1
    have hBw27_w24 := hI.2.2.2.2
    have hv23 : sl _ 23 = .bool (decide (t22 = 0)) := hp 1 (by decide)
    have hBw27_w27 := Below.refl w27.heap.size w27
    have hS := hS.cons hv23
    clear hp hI hv23
    refine hK25 _ _ ?_
    (try clear hK25 K25)
    refine wp_cond_false ((hS.get 0 rfl).trans (bF (decide_eq_false c3))) ?_
    refine wp_seq_k (fun K28 hK28 => ?_)
    refine reg_seq (N := 74) (bs := [(23, .bool (decide (t22 = 0))), (18, .int .i64 t22), (5, .pointer (some ⟨g14, 0, none⟩)), (2, .pointer (some ⟨g4, 0, none⟩))]) (I := fun x => Below w.heap.size w x ∧ Below w3.heap.size w3 x ∧ Below w10.heap.size w10 x ∧ Below w16.heap.size w16 x ∧ Below w27.heap.size w27 x) (ps := [VB (decide (t22 = 1)), VB (decide (t22 = 1))]) (by kernel_rfl) ?_ ?_ rfl hS ⟨hBw27_w, hBw27_w3, hBw27_w10, hBw27_w16, hBw27_w27⟩ ?_ ?_
    · exact fun x y hI hb => ⟨below_step hI.1 hb, below_step hI.2.1 hb, below_step hI.2.2.1 hb, below_step hI.2.2.2.1 hb, below_step hI.2.2.2.2 hb⟩
    · exact .v (.v (.nil))
    · refine .on rfl (fun a w hS hI hp => does_val (x_bin rfl (hS.get 1 rfl) (rfl) (b_eql _ _ _ _ _ _)) rfl) ?_
      refine .asg 0 rfl rfl rfl rfl ?_
      exact .nil
    clear hS
    intro at29 w30 hS hI hp
    have hBw30_w := hI.1
    have hBw30_w3 := hI.2.1
    have hBw30_w10 := hI.2.2.1
    have hBw30_w16 := hI.2.2.2.1
    have hBw30_w27 := hI.2.2.2.2
    replace hS := (((hS.nil).cons (hS.get 3 rfl)).cons (hS.get 2 rfl)).cons (hS.get 1 rfl)
    have hv34 : sl _ 34 = .bool (decide (t22 = 1)) := hp 1 (by decide)
    have hBw30_w30 := Below.refl w30.heap.size w30
    have hS := hS.cons hv34
    clear hp hI hv34
    refine hK28 _ _ ?_
    (try clear hK28 K28)
    refine wp_cond_false ((hS.get 0 rfl).trans (bF (decide_eq_false c4))) ?_
    refine wp_seq_k (fun K31 hK31 => ?_)
    refine reg_seq (N := 74) (bs := [(34, .bool (decide (t22 = 1))), (18, .int .i64 t22), (5, .pointer (some ⟨g14, 0, none⟩)), (2, .pointer (some ⟨g4, 0, none⟩))]) (I := fun x => Below w.heap.size w x ∧ Below w3.heap.size w3 x ∧ Below w10.heap.size w10 x ∧ Below w16.heap.size w16 x ∧ Below w30.heap.size w30 x) (ps := [VB (decide (t22 = 2)), VB (decide (t22 = 2))]) (by kernel_rfl) ?_ ?_ rfl hS ⟨hBw30_w, hBw30_w3, hBw30_w10, hBw30_w16, hBw30_w30⟩ ?_ ?_
    · exact fun x y hI hb => ⟨below_step hI.1 hb, below_step hI.2.1 hb, below_step hI.2.2.1 hb, below_step hI.2.2.2.1 hb, below_step hI.2.2.2.2 hb⟩
    · exact .v (.v (.nil))
    · refine .on rfl (fun a w hS hI hp => does_val (x_bin rfl (hS.get 1 rfl) (rfl) (b_eql _ _ _ _ _ _)) rfl) ?_
      refine .asg 0 rfl rfl rfl rfl ?_
      exact .nil
    clear hS
    intro at32 w33 hS hI hp
    have hBw33_w := hI.1
    have hBw33_w3 := hI.2.1
    have hBw33_w10 := hI.2.2.1
    have hBw33_w16 := hI.2.2.2.1
    have hBw33_w30 := hI.2.2.2.2
    replace hS := ((hS.nil).cons (hS.get 3 rfl)).cons (hS.get 2 rfl)
    have hv61 : sl _ 61 = .bool (decide (t22 = 2)) := hp 1 (by decide)
    have hBw33_w33 := Below.refl w33.heap.size w33
    have hS := hS.cons hv61
    clear hp hI hv61
    refine hK31 _ _ ?_
    (try clear hK31 K31)
    refine wp_cond_false ((hS.get 0 rfl).trans (bF (decide_eq_false c5))) ?_
    refine wp_seq_k (fun K34 hK34 => ?_)
    refine reg_seq_tail 1 (N := 74) (bs := [(61, .bool (decide (t22 = 2))), (5, .pointer (some ⟨g14, 0, none⟩)), (2, .pointer (some ⟨g4, 0, none⟩))]) (I := fun x => Below w.heap.size w x ∧ Below w3.heap.size w3 x ∧ Below w10.heap.size w10 x ∧ Below w16.heap.size w16 x ∧ Below w33.heap.size w33 x) (ps := [VP g14 21]) (by kernel_rfl) ?_ ?_ rfl hS ⟨hBw33_w, hBw33_w3, hBw33_w10, hBw33_w16, hBw33_w33⟩ ?_ ?_
    · exact fun x y hI hb => ⟨below_step hI.1 hb, below_step hI.2.1 hb, below_step hI.2.2.1 hb, below_step hI.2.2.2.1 hb, below_step hI.2.2.2.2 hb⟩
    · exact .v (.nil)
    · refine .on rfl (fun a w hS hI hp => does_val (x_fieldE (b := 0) rfl (hS.get 1 rfl) Try.underlying29 rfl rfl (by kernel_rfl)) rfl) ?_
      exact .nil
    clear hS
    intro at35 w36 hS hI hp
    have hBw36_w := hI.1
    have hBw36_w3 := hI.2.1
    have hBw36_w10 := hI.2.2.1
    have hBw36_w16 := hI.2.2.2.1
    have hBw36_w33 := hI.2.2.2.2
    replace hS := ((hS.nil).cons (hS.get 2 rfl)).cons (hS.get 1 rfl)
    have hv19 : sl _ 19 = .pointer (some ⟨g14, 21, none⟩) := hp 0 (by decide)
    have hBw36_w36 := Below.refl w36.heap.size w36
    have hS := hS.cons hv19
    clear hp hI hv19
    show wpList _ _ _ [_] _ _
    refine list_step rfl (does_store (g := g14) (off := 21) (v := .int .i64 2) (new := (carillonlaw07_BodyFields.c1 a0_0 a0_1 a0_2 a0_3 a0_4 a0_5 a0_6 a0_7 a0_8 a0_9 a0_10 a0_11 a0_12 a0_13 a0_14 a0_15 a0_16 a0_17 a0_18 a0_19 a0_20 2 a0_22)) rfl (hS.get 0 rfl) (rfl) ((hBw36_w16.block g14 (blk_lt hbxw16)).trans hbxw16) (by kernel_rfl) (by kernel_rfl) (by kernel_rfl) (by kernel_rfl)) ?_
    rintro vw37 w37 ⟨rfl, hbxw37, hT⟩
    have hBw37_w := hT.below hBw36_w (Nat.le_trans (hBw10_w).size hgeg14) (hBw36_w).size
    have hBw37_w3 := hT.below hBw36_w3 (Nat.le_trans (hBw10_w3).size hgeg14) (hBw36_w3).size
    have hBw37_w10 := hT.below hBw36_w10 hgeg14 (hBw36_w10).size
    have hBw37_w37 := Below.refl w37.heap.size w37
    clear hT
    refine wpList_nil ?_
    refine hK34 _ _ ?_
    (try clear hK34 K34)
    refine reg_seq (N := 74) (bs := [(19, .pointer (some ⟨g14, 21, none⟩)), (5, .pointer (some ⟨g14, 0, none⟩)), (2, .pointer (some ⟨g4, 0, none⟩))]) (I := fun x => Below w.heap.size w x ∧ Below w3.heap.size w3 x ∧ Below w10.heap.size w10 x ∧ Below w37.heap.size w37 x) (ps := [VP g4 0, VI a0_0, VB (decide (a0_0 = 13)), VB (decide (a0_0 = 13))]) (by kernel_rfl) ?_ ?_ rfl hS ⟨hBw37_w, hBw37_w3, hBw37_w10, hBw37_w37⟩ ?_ ?_
    · exact fun x y hI hb => ⟨below_step hI.1 hb, below_step hI.2.1 hb, below_step hI.2.2.1 hb, below_step hI.2.2.2 hb⟩
    · exact .v (.v (.v (.v (.nil))))
    · refine .on rfl (fun a w hS hI hp => does_val (x_fieldE (b := 0) rfl (hS.get 2 rfl) Try.underlying29 rfl rfl (by kernel_rfl)) rfl) ?_
      refine .on rfl (fun a w hS hI hp => does_val (x_load1 (d := .int .i64) rfl (hp.V 0 rfl rfl) (by kernel_rfl) rfl ((blk_cell (((hI.2.1).block g4 (blk_lt hbxg4)).trans hbxg4) 0).trans rfl)) rfl) ?_
      refine .on rfl (fun a w hS hI hp => does_val (x_bin rfl (hp.V 1 rfl rfl) (rfl) (b_eql _ _ _ _ _ _)) rfl) ?_
      refine .asg 2 rfl rfl rfl rfl ?_
      exact .nil
    clear hS
    intro at38 w39 hS hI hp
    have hBw39_w := hI.1
    have hBw39_w3 := hI.2.1
    have hBw39_w10 := hI.2.2.1
    have hBw39_w37 := hI.2.2.2
    replace hS := (hS.nil).cons (hS.get 1 rfl)
    have hv6 : sl _ 6 = .bool (decide (a0_0 = 13)) := hp 3 (by decide)
    have hBw39_w39 := Below.refl w39.heap.size w39
    have hS := hS.cons hv6
    clear hp hI hv6
    replace hS := ((hS.nil).cons (hS.get 0 rfl)).cons (hS.get 1 rfl)
    (try simp only [Exit.then, Exit.inBlock])
    exact J1 _ _ a0_0 a0_1 a0_2 a0_3 a0_4 a0_5 a0_6 a0_7 a0_8 a0_9 a0_10 a0_11 a0_12 a0_13 a0_14 a0_15 a0_16 a0_17 a0_18 a0_19 a0_20 2 a0_22 g14 (decide (a0_0 = 13)) H hS hBw39_w (Nat.le_trans (hBw10_w).size hgeg14) ((hBw39_w37.block g14 (blk_lt hbxw37)).trans hbxw37)
  rw [if_pos c4] at H
  by_cases c5 : a0_0 = 9
  · rw [if_pos c5] at H
    refine wp_seq_k (fun K21 hK21 => ?_)
    refine reg_seq (N := 74) (bs := [(5, .pointer (some ⟨g14, 0, none⟩)), (2, .pointer (some ⟨g4, 0, none⟩)), (1, .int .i64 a1)]) (I := fun x => Below w.heap.size w x ∧ Below w3.heap.size w3 x ∧ Below w10.heap.size w10 x ∧ Below w16.heap.size w16 x ∧ Below w19.heap.size w19 x) (ps := [VI a1, VI t22]) (by kernel_rfl) ?_ ?_ rfl hS ⟨hBw19_w, hBw19_w3, hBw19_w10, hBw19_w16, hBw19_w19⟩ ?_ ?_
    · exact fun x y hI hb => ⟨below_step hI.1 hb, below_step hI.2.1 hb, below_step hI.2.2.1 hb, below_step hI.2.2.2.1 hb, below_step hI.2.2.2.2 hb⟩
    · exact .v (.v (.nil))
    · refine .ms 2 rfl rfl rfl ?_
      refine .on rfl (fun a w hS hI hp => does_call (by kernel_rfl) (ar2 (hp.V 0 rfl rfl) (rfl)) ((carillonlaw00_Place.calls a1 4 t22 _  At22).mono fun _ _ h => ⟨_, h.1, h.2.below, rfl⟩)) ?_
      exact .nil
    clear hS
    intro at23 w24 hS hI hp
    have hBw24_w := hI.1
    have hBw24_w3 := hI.2.1
    have hBw24_w10 := hI.2.2.1
    have hBw24_w16 := hI.2.2.2.1
    have hBw24_w19 := hI.2.2.2.2
    replace hS := ((hS.nil).cons (hS.get 1 rfl)).cons (hS.get 0 rfl)
    have hv18 : sl _ 18 = .int .i64 t22 := hp 1 (by decide)
    have hBw24_w24 := Below.refl w24.heap.size w24
    have hS := hS.cons hv18
    clear hp hI hv18
    refine hK21 _ _ ?_
    (try clear hK21 K21)
    refine wp_block ?_
    refine wp_seq_k (fun K25 hK25 => ?_)
    refine reg_seq (N := 74) (bs := [(18, .int .i64 t22), (5, .pointer (some ⟨g14, 0, none⟩)), (2, .pointer (some ⟨g4, 0, none⟩))]) (I := fun x => Below w.heap.size w x ∧ Below w3.heap.size w3 x ∧ Below w10.heap.size w10 x ∧ Below w16.heap.size w16 x ∧ Below w24.heap.size w24 x) (ps := [VB (decide (t22 = 0)), VB (decide (t22 = 0))]) (by kernel_rfl) ?_ ?_ rfl hS ⟨hBw24_w, hBw24_w3, hBw24_w10, hBw24_w16, hBw24_w24⟩ ?_ ?_
    · exact fun x y hI hb => ⟨below_step hI.1 hb, below_step hI.2.1 hb, below_step hI.2.2.1 hb, below_step hI.2.2.2.1 hb, below_step hI.2.2.2.2 hb⟩
    · exact .v (.v (.nil))
    · refine .on rfl (fun a w hS hI hp => does_val (x_bin rfl (hS.get 0 rfl) (rfl) (b_eql _ _ _ _ _ _)) rfl) ?_
      refine .asg 0 rfl rfl rfl rfl ?_
      exact .nil
    clear hS
    intro at26 w27 hS hI hp
    have hBw27_w := hI.1
    have hBw27_w3 := hI.2.1
    have hBw27_w10 := hI.2.2.1
    have hBw27_w16 := hI.2.2.2.1
    have hBw27_w24 := hI.2.2.2.2
    have hv23 : sl _ 23 = .bool (decide (t22 = 0)) := hp 1 (by decide)
    have hBw27_w27 := Below.refl w27.heap.size w27
    have hS := hS.cons hv23
    clear hp hI hv23
    refine hK25 _ _ ?_
    (try clear hK25 K25)
    refine wp_cond_false ((hS.get 0 rfl).trans (bF (decide_eq_false c3))) ?_
    refine wp_seq_k (fun K28 hK28 => ?_)
    refine reg_seq (N := 74) (bs := [(23, .bool (decide (t22 = 0))), (18, .int .i64 t22), (5, .pointer (some ⟨g14, 0, none⟩)), (2, .pointer (some ⟨g4, 0, none⟩))]) (I := fun x => Below w.heap.size w x ∧ Below w3.heap.size w3 x ∧ Below w10.heap.size w10 x ∧ Below w16.heap.size w16 x ∧ Below w27.heap.size w27 x) (ps := [VB (decide (t22 = 1)), VB (decide (t22 = 1))]) (by kernel_rfl) ?_ ?_ rfl hS ⟨hBw27_w, hBw27_w3, hBw27_w10, hBw27_w16, hBw27_w27⟩ ?_ ?_
    · exact fun x y hI hb => ⟨below_step hI.1 hb, below_step hI.2.1 hb, below_step hI.2.2.1 hb, below_step hI.2.2.2.1 hb, below_step hI.2.2.2.2 hb⟩
    · exact .v (.v (.nil))
    · refine .on rfl (fun a w hS hI hp => does_val (x_bin rfl (hS.get 1 rfl) (rfl) (b_eql _ _ _ _ _ _)) rfl) ?_
      refine .asg 0 rfl rfl rfl rfl ?_
      exact .nil
    clear hS
    intro at29 w30 hS hI hp
    have hBw30_w := hI.1
    have hBw30_w3 := hI.2.1
    have hBw30_w10 := hI.2.2.1
    have hBw30_w16 := hI.2.2.2.1
    have hBw30_w27 := hI.2.2.2.2
    replace hS := (((hS.nil).cons (hS.get 3 rfl)).cons (hS.get 2 rfl)).cons (hS.get 1 rfl)
    have hv34 : sl _ 34 = .bool (decide (t22 = 1)) := hp 1 (by decide)
    have hBw30_w30 := Below.refl w30.heap.size w30
    have hS := hS.cons hv34
    clear hp hI hv34
    refine hK28 _ _ ?_
    (try clear hK28 K28)
    refine wp_cond_true ((hS.get 0 rfl).trans (bT (decide_eq_true c4))) ?_
    refine wp_seq_k (fun K31 hK31 => ?_)
    refine reg_seq_tail 2 (N := 74) (bs := [(34, .bool (decide (t22 = 1))), (18, .int .i64 t22), (5, .pointer (some ⟨g14, 0, none⟩)), (2, .pointer (some ⟨g4, 0, none⟩))]) (I := fun x => Below w.heap.size w x ∧ Below w3.heap.size w3 x ∧ Below w10.heap.size w10 x ∧ Below w16.heap.size w16 x ∧ Below w30.heap.size w30 x) (ps := [VP g14 9, VP g14 10]) (by kernel_rfl) ?_ ?_ rfl hS ⟨hBw30_w, hBw30_w3, hBw30_w10, hBw30_w16, hBw30_w30⟩ ?_ ?_
    · exact fun x y hI hb => ⟨below_step hI.1 hb, below_step hI.2.1 hb, below_step hI.2.2.1 hb, below_step hI.2.2.2.1 hb, below_step hI.2.2.2.2 hb⟩
    · exact .v (.v (.nil))
    · refine .on rfl (fun a w hS hI hp => does_val (x_fieldE (b := 0) rfl (hS.get 2 rfl) Try.underlying29 rfl rfl (by kernel_rfl)) rfl) ?_
      refine .on rfl (fun a w hS hI hp => does_val (x_fieldE (b := 9) rfl (hp.V 0 rfl rfl) Try.underlying25 rfl rfl (by kernel_rfl)) rfl) ?_
      exact .nil
    clear hS
    intro at32 w33 hS hI hp
    have hBw33_w := hI.1
    have hBw33_w3 := hI.2.1
    have hBw33_w10 := hI.2.2.1
    have hBw33_w16 := hI.2.2.2.1
    have hBw33_w30 := hI.2.2.2.2
    replace hS := ((hS.nil).cons (hS.get 3 rfl)).cons (hS.get 2 rfl)
    have hv37 : sl _ 37 = .pointer (some ⟨g14, 10, none⟩) := hp 1 (by decide)
    have hBw33_w33 := Below.refl w33.heap.size w33
    have hS := hS.cons hv37
    clear hp hI hv37
    show wpList _ _ _ [_] _ _
    refine list_step rfl (does_store (g := g14) (off := 10) (v := .int .i64 9) (new := (carillonlaw07_BodyFields.c1 a0_0 a0_1 a0_2 a0_3 a0_4 a0_5 a0_6 a0_7 a0_8 a0_9 9 a0_11 a0_12 a0_13 a0_14 a0_15 a0_16 a0_17 a0_18 a0_19 a0_20 a0_21 a0_22)) rfl (hS.get 0 rfl) (rfl) ((hBw33_w16.block g14 (blk_lt hbxw16)).trans hbxw16) (by kernel_rfl) (by kernel_rfl) (by kernel_rfl) (by kernel_rfl)) ?_
    rintro vw34 w34 ⟨rfl, hbxw34, hT⟩
    have hBw34_w := hT.below hBw33_w (Nat.le_trans (hBw10_w).size hgeg14) (hBw33_w).size
    have hBw34_w3 := hT.below hBw33_w3 (Nat.le_trans (hBw10_w3).size hgeg14) (hBw33_w3).size
    have hBw34_w10 := hT.below hBw33_w10 hgeg14 (hBw33_w10).size
    have hBw34_w34 := Below.refl w34.heap.size w34
    clear hT
    refine wpList_nil ?_
    refine hK31 _ _ ?_
    (try clear hK31 K31)
    refine reg_seq (N := 74) (bs := [(37, .pointer (some ⟨g14, 10, none⟩)), (5, .pointer (some ⟨g14, 0, none⟩)), (2, .pointer (some ⟨g4, 0, none⟩))]) (I := fun x => Below w.heap.size w x ∧ Below w3.heap.size w3 x ∧ Below w10.heap.size w10 x ∧ Below w34.heap.size w34 x) (ps := [VP g4 0, VI a0_0, VB (decide (a0_0 = 9)), VB (decide (a0_0 = 9)), VU, VU, VU, VB true, VB true, VU, VU, VU, VB true, VB true, VU, VU, VU, VB true, VB true, VU, VU, VU, VB true, VB true]) (by kernel_rfl) ?_ ?_ rfl hS ⟨hBw34_w, hBw34_w3, hBw34_w10, hBw34_w34⟩ ?_ ?_
    · exact fun x y hI hb => ⟨below_step hI.1 hb, below_step hI.2.1 hb, below_step hI.2.2.1 hb, below_step hI.2.2.2 hb⟩
    · exact .v (.v (.v (.v (.v (.v (.v (.v (.v (.v (.v (.v (.v (.v (.v (.v (.v (.v (.v (.v (.v (.v (.v (.v (.nil))))))))))))))))))))))))
    · refine .on rfl (fun a w hS hI hp => does_val (x_fieldE (b := 0) rfl (hS.get 2 rfl) Try.underlying29 rfl rfl (by kernel_rfl)) rfl) ?_
      refine .on rfl (fun a w hS hI hp => does_val (x_load1 (d := .int .i64) rfl (hp.V 0 rfl rfl) (by kernel_rfl) rfl ((blk_cell (((hI.2.1).block g4 (blk_lt hbxg4)).trans hbxg4) 0).trans rfl)) rfl) ?_
      refine .on rfl (fun a w hS hI hp => does_val (x_bin rfl (hp.V 1 rfl rfl) (rfl) (b_eql _ _ _ _ _ _)) rfl) ?_
      refine .mv 2 rfl rfl rfl rfl ?_
      iterate 3 refine .sn 3 41 rfl rfl rfl rfl rfl ((decide_eq_true c5)) ?_
      refine .on rfl (fun a w hS hI hp => does_val (x_pickT rfl ((hp.V 3 rfl rfl).trans (bT (decide_eq_true c5))) (rfl)) rfl) ?_
      refine .mv 7 rfl rfl rfl rfl ?_
      iterate 3 refine .sn 8 46 rfl rfl rfl rfl rfl rfl ?_
      refine .on rfl (fun a w hS hI hp => does_val (x_pickT rfl ((hp.V 8 rfl rfl).trans (bT rfl)) (rfl)) rfl) ?_
      refine .mv 12 rfl rfl rfl rfl ?_
      iterate 3 refine .sn 13 51 rfl rfl rfl rfl rfl rfl ?_
      refine .on rfl (fun a w hS hI hp => does_val (x_pickT rfl ((hp.V 13 rfl rfl).trans (bT rfl)) (rfl)) rfl) ?_
      refine .mv 17 rfl rfl rfl rfl ?_
      iterate 3 refine .sn 18 56 rfl rfl rfl rfl rfl rfl ?_
      refine .on rfl (fun a w hS hI hp => does_val (x_pickT rfl ((hp.V 18 rfl rfl).trans (bT rfl)) (rfl)) rfl) ?_
      refine .asg 22 rfl rfl rfl rfl ?_
      exact .nil
    clear hS
    intro at35 w36 hS hI hp
    have hBw36_w := hI.1
    have hBw36_w3 := hI.2.1
    have hBw36_w10 := hI.2.2.1
    have hBw36_w34 := hI.2.2.2
    replace hS := (hS.nil).cons (hS.get 1 rfl)
    have hv6 : sl _ 6 = .bool true := hp 23 (by decide)
    have hBw36_w36 := Below.refl w36.heap.size w36
    have hS := hS.cons hv6
    clear hp hI hv6
    replace hS := ((hS.nil).cons (hS.get 0 rfl)).cons (hS.get 1 rfl)
    (try simp only [Exit.then, Exit.inBlock])
    exact J1 _ _ a0_0 a0_1 a0_2 a0_3 a0_4 a0_5 a0_6 a0_7 a0_8 a0_9 9 a0_11 a0_12 a0_13 a0_14 a0_15 a0_16 a0_17 a0_18 a0_19 a0_20 a0_21 a0_22 g14 true H hS hBw36_w (Nat.le_trans (hBw10_w).size hgeg14) ((hBw36_w34.block g14 (blk_lt hbxw34)).trans hbxw34)
  rw [if_neg c5] at H
  by_cases c6 : a0_0 = 3
  · rw [if_pos c6] at H
    refine wp_seq_k (fun K21 hK21 => ?_)
    refine reg_seq (N := 74) (bs := [(5, .pointer (some ⟨g14, 0, none⟩)), (2, .pointer (some ⟨g4, 0, none⟩)), (1, .int .i64 a1)]) (I := fun x => Below w.heap.size w x ∧ Below w3.heap.size w3 x ∧ Below w10.heap.size w10 x ∧ Below w16.heap.size w16 x ∧ Below w19.heap.size w19 x) (ps := [VI a1, VI t22]) (by kernel_rfl) ?_ ?_ rfl hS ⟨hBw19_w, hBw19_w3, hBw19_w10, hBw19_w16, hBw19_w19⟩ ?_ ?_
    · exact fun x y hI hb => ⟨below_step hI.1 hb, below_step hI.2.1 hb, below_step hI.2.2.1 hb, below_step hI.2.2.2.1 hb, below_step hI.2.2.2.2 hb⟩
    · exact .v (.v (.nil))
    · refine .ms 2 rfl rfl rfl ?_
      refine .on rfl (fun a w hS hI hp => does_call (by kernel_rfl) (ar2 (hp.V 0 rfl rfl) (rfl)) ((carillonlaw00_Place.calls a1 4 t22 _  At22).mono fun _ _ h => ⟨_, h.1, h.2.below, rfl⟩)) ?_
      exact .nil
    clear hS
    intro at23 w24 hS hI hp
    have hBw24_w := hI.1
    have hBw24_w3 := hI.2.1
    have hBw24_w10 := hI.2.2.1
    have hBw24_w16 := hI.2.2.2.1
    have hBw24_w19 := hI.2.2.2.2
    replace hS := ((hS.nil).cons (hS.get 1 rfl)).cons (hS.get 0 rfl)
    have hv18 : sl _ 18 = .int .i64 t22 := hp 1 (by decide)
    have hBw24_w24 := Below.refl w24.heap.size w24
    have hS := hS.cons hv18
    clear hp hI hv18
    refine hK21 _ _ ?_
    (try clear hK21 K21)
    refine wp_block ?_
    refine wp_seq_k (fun K25 hK25 => ?_)
    refine reg_seq (N := 74) (bs := [(18, .int .i64 t22), (5, .pointer (some ⟨g14, 0, none⟩)), (2, .pointer (some ⟨g4, 0, none⟩))]) (I := fun x => Below w.heap.size w x ∧ Below w3.heap.size w3 x ∧ Below w10.heap.size w10 x ∧ Below w16.heap.size w16 x ∧ Below w24.heap.size w24 x) (ps := [VB (decide (t22 = 0)), VB (decide (t22 = 0))]) (by kernel_rfl) ?_ ?_ rfl hS ⟨hBw24_w, hBw24_w3, hBw24_w10, hBw24_w16, hBw24_w24⟩ ?_ ?_
    · exact fun x y hI hb => ⟨below_step hI.1 hb, below_step hI.2.1 hb, below_step hI.2.2.1 hb, below_step hI.2.2.2.1 hb, below_step hI.2.2.2.2 hb⟩
    · exact .v (.v (.nil))
    · refine .on rfl (fun a w hS hI hp => does_val (x_bin rfl (hS.get 0 rfl) (rfl) (b_eql _ _ _ _ _ _)) rfl) ?_
      refine .asg 0 rfl rfl rfl rfl ?_
      exact .nil
    clear hS
    intro at26 w27 hS hI hp
    have hBw27_w := hI.1
    have hBw27_w3 := hI.2.1
    have hBw27_w10 := hI.2.2.1
    have hBw27_w16 := hI.2.2.2.1
    have hBw27_w24 := hI.2.2.2.2
    have hv23 : sl _ 23 = .bool (decide (t22 = 0)) := hp 1 (by decide)
    have hBw27_w27 := Below.refl w27.heap.size w27
    have hS := hS.cons hv23
    clear hp hI hv23
    refine hK25 _ _ ?_
    (try clear hK25 K25)
    refine wp_cond_false ((hS.get 0 rfl).trans (bF (decide_eq_false c3))) ?_
    refine wp_seq_k (fun K28 hK28 => ?_)
    refine reg_seq (N := 74) (bs := [(23, .bool (decide (t22 = 0))), (18, .int .i64 t22), (5, .pointer (some ⟨g14, 0, none⟩)), (2, .pointer (some ⟨g4, 0, none⟩))]) (I := fun x => Below w.heap.size w x ∧ Below w3.heap.size w3 x ∧ Below w10.heap.size w10 x ∧ Below w16.heap.size w16 x ∧ Below w27.heap.size w27 x) (ps := [VB (decide (t22 = 1)), VB (decide (t22 = 1))]) (by kernel_rfl) ?_ ?_ rfl hS ⟨hBw27_w, hBw27_w3, hBw27_w10, hBw27_w16, hBw27_w27⟩ ?_ ?_
    · exact fun x y hI hb => ⟨below_step hI.1 hb, below_step hI.2.1 hb, below_step hI.2.2.1 hb, below_step hI.2.2.2.1 hb, below_step hI.2.2.2.2 hb⟩
    · exact .v (.v (.nil))
    · refine .on rfl (fun a w hS hI hp => does_val (x_bin rfl (hS.get 1 rfl) (rfl) (b_eql _ _ _ _ _ _)) rfl) ?_
      refine .asg 0 rfl rfl rfl rfl ?_
      exact .nil
    clear hS
    intro at29 w30 hS hI hp
    have hBw30_w := hI.1
    have hBw30_w3 := hI.2.1
    have hBw30_w10 := hI.2.2.1
    have hBw30_w16 := hI.2.2.2.1
    have hBw30_w27 := hI.2.2.2.2
    replace hS := (((hS.nil).cons (hS.get 3 rfl)).cons (hS.get 2 rfl)).cons (hS.get 1 rfl)
    have hv34 : sl _ 34 = .bool (decide (t22 = 1)) := hp 1 (by decide)
    have hBw30_w30 := Below.refl w30.heap.size w30
    have hS := hS.cons hv34
    clear hp hI hv34
    refine hK28 _ _ ?_
    (try clear hK28 K28)
    refine wp_cond_true ((hS.get 0 rfl).trans (bT (decide_eq_true c4))) ?_
    refine wp_seq_k (fun K31 hK31 => ?_)
    refine reg_seq_tail 2 (N := 74) (bs := [(34, .bool (decide (t22 = 1))), (18, .int .i64 t22), (5, .pointer (some ⟨g14, 0, none⟩)), (2, .pointer (some ⟨g4, 0, none⟩))]) (I := fun x => Below w.heap.size w x ∧ Below w3.heap.size w3 x ∧ Below w10.heap.size w10 x ∧ Below w16.heap.size w16 x ∧ Below w30.heap.size w30 x) (ps := [VP g14 9, VP g14 10]) (by kernel_rfl) ?_ ?_ rfl hS ⟨hBw30_w, hBw30_w3, hBw30_w10, hBw30_w16, hBw30_w30⟩ ?_ ?_
    · exact fun x y hI hb => ⟨below_step hI.1 hb, below_step hI.2.1 hb, below_step hI.2.2.1 hb, below_step hI.2.2.2.1 hb, below_step hI.2.2.2.2 hb⟩
    · exact .v (.v (.nil))
    · refine .on rfl (fun a w hS hI hp => does_val (x_fieldE (b := 0) rfl (hS.get 2 rfl) Try.underlying29 rfl rfl (by kernel_rfl)) rfl) ?_
      refine .on rfl (fun a w hS hI hp => does_val (x_fieldE (b := 9) rfl (hp.V 0 rfl rfl) Try.underlying25 rfl rfl (by kernel_rfl)) rfl) ?_
      exact .nil
    clear hS
    intro at32 w33 hS hI hp
    have hBw33_w := hI.1
    have hBw33_w3 := hI.2.1
    have hBw33_w10 := hI.2.2.1
    have hBw33_w16 := hI.2.2.2.1
    have hBw33_w30 := hI.2.2.2.2
    replace hS := ((hS.nil).cons (hS.get 3 rfl)).cons (hS.get 2 rfl)
    have hv37 : sl _ 37 = .pointer (some ⟨g14, 10, none⟩) := hp 1 (by decide)
    have hBw33_w33 := Below.refl w33.heap.size w33
    have hS := hS.cons hv37
    clear hp hI hv37
    show wpList _ _ _ [_] _ _
    refine list_step rfl (does_store (g := g14) (off := 10) (v := .int .i64 9) (new := (carillonlaw07_BodyFields.c1 a0_0 a0_1 a0_2 a0_3 a0_4 a0_5 a0_6 a0_7 a0_8 a0_9 9 a0_11 a0_12 a0_13 a0_14 a0_15 a0_16 a0_17 a0_18 a0_19 a0_20 a0_21 a0_22)) rfl (hS.get 0 rfl) (rfl) ((hBw33_w16.block g14 (blk_lt hbxw16)).trans hbxw16) (by kernel_rfl) (by kernel_rfl) (by kernel_rfl) (by kernel_rfl)) ?_
    rintro vw34 w34 ⟨rfl, hbxw34, hT⟩
    have hBw34_w := hT.below hBw33_w (Nat.le_trans (hBw10_w).size hgeg14) (hBw33_w).size
    have hBw34_w3 := hT.below hBw33_w3 (Nat.le_trans (hBw10_w3).size hgeg14) (hBw33_w3).size
    have hBw34_w10 := hT.below hBw33_w10 hgeg14 (hBw33_w10).size
    have hBw34_w34 := Below.refl w34.heap.size w34
    clear hT
    refine wpList_nil ?_
    refine hK31 _ _ ?_
    (try clear hK31 K31)
    refine reg_seq (N := 74) (bs := [(37, .pointer (some ⟨g14, 10, none⟩)), (5, .pointer (some ⟨g14, 0, none⟩)), (2, .pointer (some ⟨g4, 0, none⟩))]) (I := fun x => Below w.heap.size w x ∧ Below w3.heap.size w3 x ∧ Below w10.heap.size w10 x ∧ Below w34.heap.size w34 x) (ps := [VP g4 0, VI a0_0, VB (decide (a0_0 = 9)), VB (decide (a0_0 = 9)), VP g4 0, VI a0_0, VB (decide (a0_0 = 3)), VB (decide (a0_0 = 3)), VB (decide (a0_0 = 3)), VU, VU, VU, VB true, VB true, VU, VU, VU, VB true, VB true, VU, VU, VU, VB true, VB true]) (by kernel_rfl) ?_ ?_ rfl hS ⟨hBw34_w, hBw34_w3, hBw34_w10, hBw34_w34⟩ ?_ ?_
    · exact fun x y hI hb => ⟨below_step hI.1 hb, below_step hI.2.1 hb, below_step hI.2.2.1 hb, below_step hI.2.2.2 hb⟩
    · exact .v (.v (.v (.v (.v (.v (.v (.v (.v (.v (.v (.v (.v (.v (.v (.v (.v (.v (.v (.v (.v (.v (.v (.v (.nil))))))))))))))))))))))))
    · refine .on rfl (fun a w hS hI hp => does_val (x_fieldE (b := 0) rfl (hS.get 2 rfl) Try.underlying29 rfl rfl (by kernel_rfl)) rfl) ?_
      refine .on rfl (fun a w hS hI hp => does_val (x_load1 (d := .int .i64) rfl (hp.V 0 rfl rfl) (by kernel_rfl) rfl ((blk_cell (((hI.2.1).block g4 (blk_lt hbxg4)).trans hbxg4) 0).trans rfl)) rfl) ?_
      refine .on rfl (fun a w hS hI hp => does_val (x_bin rfl (hp.V 1 rfl rfl) (rfl) (b_eql _ _ _ _ _ _)) rfl) ?_
      refine .mv 2 rfl rfl rfl rfl ?_
      refine .oy 3 41 rfl rfl rfl rfl rfl ((decide_eq_false c5)) (fun a w hS hI hp => does_val (x_fieldE (b := 0) rfl (hS.get 2 rfl) Try.underlying29 rfl rfl (by kernel_rfl)) rfl) ?_
      refine .oy 3 41 rfl rfl rfl rfl rfl ((decide_eq_false c5)) (fun a w hS hI hp => does_val (x_load1 (d := .int .i64) rfl (hp.V 4 rfl rfl) (by kernel_rfl) rfl ((blk_cell (((hI.2.1).block g4 (blk_lt hbxg4)).trans hbxg4) 0).trans rfl)) rfl) ?_
      refine .oy 3 41 rfl rfl rfl rfl rfl ((decide_eq_false c5)) (fun a w hS hI hp => does_val (x_bin rfl (hp.V 5 rfl rfl) (rfl) (b_eql _ _ _ _ _ _)) rfl) ?_
      refine .on rfl (fun a w hS hI hp => does_val (x_pickF rfl ((hp.V 3 rfl rfl).trans (bF (decide_eq_false c5))) (hp.V 6 rfl rfl)) rfl) ?_
      refine .mv 7 rfl rfl rfl rfl ?_
      iterate 3 refine .sn 8 46 rfl rfl rfl rfl rfl ((decide_eq_true c6)) ?_
      refine .on rfl (fun a w hS hI hp => does_val (x_pickT rfl ((hp.V 8 rfl rfl).trans (bT (decide_eq_true c6))) (rfl)) rfl) ?_
      refine .mv 12 rfl rfl rfl rfl ?_
      iterate 3 refine .sn 13 51 rfl rfl rfl rfl rfl rfl ?_
      refine .on rfl (fun a w hS hI hp => does_val (x_pickT rfl ((hp.V 13 rfl rfl).trans (bT rfl)) (rfl)) rfl) ?_
      refine .mv 17 rfl rfl rfl rfl ?_
      iterate 3 refine .sn 18 56 rfl rfl rfl rfl rfl rfl ?_
      refine .on rfl (fun a w hS hI hp => does_val (x_pickT rfl ((hp.V 18 rfl rfl).trans (bT rfl)) (rfl)) rfl) ?_
      refine .asg 22 rfl rfl rfl rfl ?_
      exact .nil
    clear hS
    intro at35 w36 hS hI hp
    have hBw36_w := hI.1
    have hBw36_w3 := hI.2.1
    have hBw36_w10 := hI.2.2.1
    have hBw36_w34 := hI.2.2.2
    replace hS := (hS.nil).cons (hS.get 1 rfl)
    have hv6 : sl _ 6 = .bool true := hp 23 (by decide)
    have hBw36_w36 := Below.refl w36.heap.size w36
    have hS := hS.cons hv6
    clear hp hI hv6
    replace hS := ((hS.nil).cons (hS.get 0 rfl)).cons (hS.get 1 rfl)
    (try simp only [Exit.then, Exit.inBlock])
    exact J1 _ _ a0_0 a0_1 a0_2 a0_3 a0_4 a0_5 a0_6 a0_7 a0_8 a0_9 9 a0_11 a0_12 a0_13 a0_14 a0_15 a0_16 a0_17 a0_18 a0_19 a0_20 a0_21 a0_22 g14 true H hS hBw36_w (Nat.le_trans (hBw10_w).size hgeg14) ((hBw36_w34.block g14 (blk_lt hbxw34)).trans hbxw34)
  rw [if_neg c6] at H
  by_cases c7 : a0_0 = 10
  · rw [if_pos c7] at H
    refine wp_seq_k (fun K21 hK21 => ?_)
    refine reg_seq (N := 74) (bs := [(5, .pointer (some ⟨g14, 0, none⟩)), (2, .pointer (some ⟨g4, 0, none⟩)), (1, .int .i64 a1)]) (I := fun x => Below w.heap.size w x ∧ Below w3.heap.size w3 x ∧ Below w10.heap.size w10 x ∧ Below w16.heap.size w16 x ∧ Below w19.heap.size w19 x) (ps := [VI a1, VI t22]) (by kernel_rfl) ?_ ?_ rfl hS ⟨hBw19_w, hBw19_w3, hBw19_w10, hBw19_w16, hBw19_w19⟩ ?_ ?_
    · exact fun x y hI hb => ⟨below_step hI.1 hb, below_step hI.2.1 hb, below_step hI.2.2.1 hb, below_step hI.2.2.2.1 hb, below_step hI.2.2.2.2 hb⟩
    · exact .v (.v (.nil))
    · refine .ms 2 rfl rfl rfl ?_
      refine .on rfl (fun a w hS hI hp => does_call (by kernel_rfl) (ar2 (hp.V 0 rfl rfl) (rfl)) ((carillonlaw00_Place.calls a1 4 t22 _  At22).mono fun _ _ h => ⟨_, h.1, h.2.below, rfl⟩)) ?_
      exact .nil
    clear hS
    intro at23 w24 hS hI hp
    have hBw24_w := hI.1
    have hBw24_w3 := hI.2.1
    have hBw24_w10 := hI.2.2.1
    have hBw24_w16 := hI.2.2.2.1
    have hBw24_w19 := hI.2.2.2.2
    replace hS := ((hS.nil).cons (hS.get 1 rfl)).cons (hS.get 0 rfl)
    have hv18 : sl _ 18 = .int .i64 t22 := hp 1 (by decide)
    have hBw24_w24 := Below.refl w24.heap.size w24
    have hS := hS.cons hv18
    clear hp hI hv18
    refine hK21 _ _ ?_
    (try clear hK21 K21)
    refine wp_block ?_
    refine wp_seq_k (fun K25 hK25 => ?_)
    refine reg_seq (N := 74) (bs := [(18, .int .i64 t22), (5, .pointer (some ⟨g14, 0, none⟩)), (2, .pointer (some ⟨g4, 0, none⟩))]) (I := fun x => Below w.heap.size w x ∧ Below w3.heap.size w3 x ∧ Below w10.heap.size w10 x ∧ Below w16.heap.size w16 x ∧ Below w24.heap.size w24 x) (ps := [VB (decide (t22 = 0)), VB (decide (t22 = 0))]) (by kernel_rfl) ?_ ?_ rfl hS ⟨hBw24_w, hBw24_w3, hBw24_w10, hBw24_w16, hBw24_w24⟩ ?_ ?_
    · exact fun x y hI hb => ⟨below_step hI.1 hb, below_step hI.2.1 hb, below_step hI.2.2.1 hb, below_step hI.2.2.2.1 hb, below_step hI.2.2.2.2 hb⟩
    · exact .v (.v (.nil))
    · refine .on rfl (fun a w hS hI hp => does_val (x_bin rfl (hS.get 0 rfl) (rfl) (b_eql _ _ _ _ _ _)) rfl) ?_
      refine .asg 0 rfl rfl rfl rfl ?_
      exact .nil
    clear hS
    intro at26 w27 hS hI hp
    have hBw27_w := hI.1
    have hBw27_w3 := hI.2.1
    have hBw27_w10 := hI.2.2.1
    have hBw27_w16 := hI.2.2.2.1
    have hBw27_w24 := hI.2.2.2.2
    have hv23 : sl _ 23 = .bool (decide (t22 = 0)) := hp 1 (by decide)
    have hBw27_w27 := Below.refl w27.heap.size w27
    have hS := hS.cons hv23
    clear hp hI hv23
    refine hK25 _ _ ?_
    (try clear hK25 K25)
    refine wp_cond_false ((hS.get 0 rfl).trans (bF (decide_eq_false c3))) ?_
    refine wp_seq_k (fun K28 hK28 => ?_)
    refine reg_seq (N := 74) (bs := [(23, .bool (decide (t22 = 0))), (18, .int .i64 t22), (5, .pointer (some ⟨g14, 0, none⟩)), (2, .pointer (some ⟨g4, 0, none⟩))]) (I := fun x => Below w.heap.size w x ∧ Below w3.heap.size w3 x ∧ Below w10.heap.size w10 x ∧ Below w16.heap.size w16 x ∧ Below w27.heap.size w27 x) (ps := [VB (decide (t22 = 1)), VB (decide (t22 = 1))]) (by kernel_rfl) ?_ ?_ rfl hS ⟨hBw27_w, hBw27_w3, hBw27_w10, hBw27_w16, hBw27_w27⟩ ?_ ?_
    · exact fun x y hI hb => ⟨below_step hI.1 hb, below_step hI.2.1 hb, below_step hI.2.2.1 hb, below_step hI.2.2.2.1 hb, below_step hI.2.2.2.2 hb⟩
    · exact .v (.v (.nil))
    · refine .on rfl (fun a w hS hI hp => does_val (x_bin rfl (hS.get 1 rfl) (rfl) (b_eql _ _ _ _ _ _)) rfl) ?_
      refine .asg 0 rfl rfl rfl rfl ?_
      exact .nil
    clear hS
    intro at29 w30 hS hI hp
    have hBw30_w := hI.1
    have hBw30_w3 := hI.2.1
    have hBw30_w10 := hI.2.2.1
    have hBw30_w16 := hI.2.2.2.1
    have hBw30_w27 := hI.2.2.2.2
    replace hS := (((hS.nil).cons (hS.get 3 rfl)).cons (hS.get 2 rfl)).cons (hS.get 1 rfl)
    have hv34 : sl _ 34 = .bool (decide (t22 = 1)) := hp 1 (by decide)
    have hBw30_w30 := Below.refl w30.heap.size w30
    have hS := hS.cons hv34
    clear hp hI hv34
    refine hK28 _ _ ?_
    (try clear hK28 K28)
    refine wp_cond_true ((hS.get 0 rfl).trans (bT (decide_eq_true c4))) ?_
    refine wp_seq_k (fun K31 hK31 => ?_)
    refine reg_seq_tail 2 (N := 74) (bs := [(34, .bool (decide (t22 = 1))), (18, .int .i64 t22), (5, .pointer (some ⟨g14, 0, none⟩)), (2, .pointer (some ⟨g4, 0, none⟩))]) (I := fun x => Below w.heap.size w x ∧ Below w3.heap.size w3 x ∧ Below w10.heap.size w10 x ∧ Below w16.heap.size w16 x ∧ Below w30.heap.size w30 x) (ps := [VP g14 9, VP g14 10]) (by kernel_rfl) ?_ ?_ rfl hS ⟨hBw30_w, hBw30_w3, hBw30_w10, hBw30_w16, hBw30_w30⟩ ?_ ?_
    · exact fun x y hI hb => ⟨below_step hI.1 hb, below_step hI.2.1 hb, below_step hI.2.2.1 hb, below_step hI.2.2.2.1 hb, below_step hI.2.2.2.2 hb⟩
    · exact .v (.v (.nil))
    · refine .on rfl (fun a w hS hI hp => does_val (x_fieldE (b := 0) rfl (hS.get 2 rfl) Try.underlying29 rfl rfl (by kernel_rfl)) rfl) ?_
      refine .on rfl (fun a w hS hI hp => does_val (x_fieldE (b := 9) rfl (hp.V 0 rfl rfl) Try.underlying25 rfl rfl (by kernel_rfl)) rfl) ?_
      exact .nil
    clear hS
    intro at32 w33 hS hI hp
    have hBw33_w := hI.1
    have hBw33_w3 := hI.2.1
    have hBw33_w10 := hI.2.2.1
    have hBw33_w16 := hI.2.2.2.1
    have hBw33_w30 := hI.2.2.2.2
    replace hS := ((hS.nil).cons (hS.get 3 rfl)).cons (hS.get 2 rfl)
    have hv37 : sl _ 37 = .pointer (some ⟨g14, 10, none⟩) := hp 1 (by decide)
    have hBw33_w33 := Below.refl w33.heap.size w33
    have hS := hS.cons hv37
    clear hp hI hv37
    show wpList _ _ _ [_] _ _
    refine list_step rfl (does_store (g := g14) (off := 10) (v := .int .i64 9) (new := (carillonlaw07_BodyFields.c1 a0_0 a0_1 a0_2 a0_3 a0_4 a0_5 a0_6 a0_7 a0_8 a0_9 9 a0_11 a0_12 a0_13 a0_14 a0_15 a0_16 a0_17 a0_18 a0_19 a0_20 a0_21 a0_22)) rfl (hS.get 0 rfl) (rfl) ((hBw33_w16.block g14 (blk_lt hbxw16)).trans hbxw16) (by kernel_rfl) (by kernel_rfl) (by kernel_rfl) (by kernel_rfl)) ?_
    rintro vw34 w34 ⟨rfl, hbxw34, hT⟩
    have hBw34_w := hT.below hBw33_w (Nat.le_trans (hBw10_w).size hgeg14) (hBw33_w).size
    have hBw34_w3 := hT.below hBw33_w3 (Nat.le_trans (hBw10_w3).size hgeg14) (hBw33_w3).size
    have hBw34_w10 := hT.below hBw33_w10 hgeg14 (hBw33_w10).size
    have hBw34_w34 := Below.refl w34.heap.size w34
    clear hT
    refine wpList_nil ?_
    refine hK31 _ _ ?_
    (try clear hK31 K31)
    refine reg_seq (N := 74) (bs := [(37, .pointer (some ⟨g14, 10, none⟩)), (5, .pointer (some ⟨g14, 0, none⟩)), (2, .pointer (some ⟨g4, 0, none⟩))]) (I := fun x => Below w.heap.size w x ∧ Below w3.heap.size w3 x ∧ Below w10.heap.size w10 x ∧ Below w34.heap.size w34 x) (ps := [VP g4 0, VI a0_0, VB (decide (a0_0 = 9)), VB (decide (a0_0 = 9)), VP g4 0, VI a0_0, VB (decide (a0_0 = 3)), VB (decide (a0_0 = 3)), VB (decide (a0_0 = 3)), VP g4 0, VI a0_0, VB (decide (a0_0 = 10)), VB (decide (a0_0 = 10)), VB (decide (a0_0 = 10)), VU, VU, VU, VB true, VB true, VU, VU, VU, VB true, VB true]) (by kernel_rfl) ?_ ?_ rfl hS ⟨hBw34_w, hBw34_w3, hBw34_w10, hBw34_w34⟩ ?_ ?_
    · exact fun x y hI hb => ⟨below_step hI.1 hb, below_step hI.2.1 hb, below_step hI.2.2.1 hb, below_step hI.2.2.2 hb⟩
    · exact .v (.v (.v (.v (.v (.v (.v (.v (.v (.v (.v (.v (.v (.v (.v (.v (.v (.v (.v (.v (.v (.v (.v (.v (.nil))))))))))))))))))))))))
    · refine .on rfl (fun a w hS hI hp => does_val (x_fieldE (b := 0) rfl (hS.get 2 rfl) Try.underlying29 rfl rfl (by kernel_rfl)) rfl) ?_
      refine .on rfl (fun a w hS hI hp => does_val (x_load1 (d := .int .i64) rfl (hp.V 0 rfl rfl) (by kernel_rfl) rfl ((blk_cell (((hI.2.1).block g4 (blk_lt hbxg4)).trans hbxg4) 0).trans rfl)) rfl) ?_
      refine .on rfl (fun a w hS hI hp => does_val (x_bin rfl (hp.V 1 rfl rfl) (rfl) (b_eql _ _ _ _ _ _)) rfl) ?_
      refine .mv 2 rfl rfl rfl rfl ?_
      refine .oy 3 41 rfl rfl rfl rfl rfl ((decide_eq_false c5)) (fun a w hS hI hp => does_val (x_fieldE (b := 0) rfl (hS.get 2 rfl) Try.underlying29 rfl rfl (by kernel_rfl)) rfl) ?_
      refine .oy 3 41 rfl rfl rfl rfl rfl ((decide_eq_false c5)) (fun a w hS hI hp => does_val (x_load1 (d := .int .i64) rfl (hp.V 4 rfl rfl) (by kernel_rfl) rfl ((blk_cell (((hI.2.1).block g4 (blk_lt hbxg4)).trans hbxg4) 0).trans rfl)) rfl) ?_
      refine .oy 3 41 rfl rfl rfl rfl rfl ((decide_eq_false c5)) (fun a w hS hI hp => does_val (x_bin rfl (hp.V 5 rfl rfl) (rfl) (b_eql _ _ _ _ _ _)) rfl) ?_
      refine .on rfl (fun a w hS hI hp => does_val (x_pickF rfl ((hp.V 3 rfl rfl).trans (bF (decide_eq_false c5))) (hp.V 6 rfl rfl)) rfl) ?_
      refine .mv 7 rfl rfl rfl rfl ?_
      refine .oy 8 46 rfl rfl rfl rfl rfl ((decide_eq_false c6)) (fun a w hS hI hp => does_val (x_fieldE (b := 0) rfl (hS.get 2 rfl) Try.underlying29 rfl rfl (by kernel_rfl)) rfl) ?_
      refine .oy 8 46 rfl rfl rfl rfl rfl ((decide_eq_false c6)) (fun a w hS hI hp => does_val (x_load1 (d := .int .i64) rfl (hp.V 9 rfl rfl) (by kernel_rfl) rfl ((blk_cell (((hI.2.1).block g4 (blk_lt hbxg4)).trans hbxg4) 0).trans rfl)) rfl) ?_
      refine .oy 8 46 rfl rfl rfl rfl rfl ((decide_eq_false c6)) (fun a w hS hI hp => does_val (x_bin rfl (hp.V 10 rfl rfl) (rfl) (b_eql _ _ _ _ _ _)) rfl) ?_
      refine .on rfl (fun a w hS hI hp => does_val (x_pickF rfl ((hp.V 8 rfl rfl).trans (bF (decide_eq_false c6))) (hp.V 11 rfl rfl)) rfl) ?_
      refine .mv 12 rfl rfl rfl rfl ?_
      iterate 3 refine .sn 13 51 rfl rfl rfl rfl rfl ((decide_eq_true c7)) ?_
      refine .on rfl (fun a w hS hI hp => does_val (x_pickT rfl ((hp.V 13 rfl rfl).trans (bT (decide_eq_true c7))) (rfl)) rfl) ?_
      refine .mv 17 rfl rfl rfl rfl ?_
      iterate 3 refine .sn 18 56 rfl rfl rfl rfl rfl rfl ?_
      refine .on rfl (fun a w hS hI hp => does_val (x_pickT rfl ((hp.V 18 rfl rfl).trans (bT rfl)) (rfl)) rfl) ?_
      refine .asg 22 rfl rfl rfl rfl ?_
      exact .nil
    clear hS
    intro at35 w36 hS hI hp
    have hBw36_w := hI.1
    have hBw36_w3 := hI.2.1
    have hBw36_w10 := hI.2.2.1
    have hBw36_w34 := hI.2.2.2
    replace hS := (hS.nil).cons (hS.get 1 rfl)
    have hv6 : sl _ 6 = .bool true := hp 23 (by decide)
    have hBw36_w36 := Below.refl w36.heap.size w36
    have hS := hS.cons hv6
    clear hp hI hv6
    replace hS := ((hS.nil).cons (hS.get 0 rfl)).cons (hS.get 1 rfl)
    (try simp only [Exit.then, Exit.inBlock])
    exact J1 _ _ a0_0 a0_1 a0_2 a0_3 a0_4 a0_5 a0_6 a0_7 a0_8 a0_9 9 a0_11 a0_12 a0_13 a0_14 a0_15 a0_16 a0_17 a0_18 a0_19 a0_20 a0_21 a0_22 g14 true H hS hBw36_w (Nat.le_trans (hBw10_w).size hgeg14) ((hBw36_w34.block g14 (blk_lt hbxw34)).trans hbxw34)
  rw [if_neg c7] at H
  by_cases c8 : a0_0 = 12
  · rw [if_pos c8] at H
    refine wp_seq_k (fun K21 hK21 => ?_)
    refine reg_seq (N := 74) (bs := [(5, .pointer (some ⟨g14, 0, none⟩)), (2, .pointer (some ⟨g4, 0, none⟩)), (1, .int .i64 a1)]) (I := fun x => Below w.heap.size w x ∧ Below w3.heap.size w3 x ∧ Below w10.heap.size w10 x ∧ Below w16.heap.size w16 x ∧ Below w19.heap.size w19 x) (ps := [VI a1, VI t22]) (by kernel_rfl) ?_ ?_ rfl hS ⟨hBw19_w, hBw19_w3, hBw19_w10, hBw19_w16, hBw19_w19⟩ ?_ ?_
    · exact fun x y hI hb => ⟨below_step hI.1 hb, below_step hI.2.1 hb, below_step hI.2.2.1 hb, below_step hI.2.2.2.1 hb, below_step hI.2.2.2.2 hb⟩
    · exact .v (.v (.nil))
    · refine .ms 2 rfl rfl rfl ?_
      refine .on rfl (fun a w hS hI hp => does_call (by kernel_rfl) (ar2 (hp.V 0 rfl rfl) (rfl)) ((carillonlaw00_Place.calls a1 4 t22 _  At22).mono fun _ _ h => ⟨_, h.1, h.2.below, rfl⟩)) ?_
      exact .nil
    clear hS
    intro at23 w24 hS hI hp
    have hBw24_w := hI.1
    have hBw24_w3 := hI.2.1
    have hBw24_w10 := hI.2.2.1
    have hBw24_w16 := hI.2.2.2.1
    have hBw24_w19 := hI.2.2.2.2
    replace hS := ((hS.nil).cons (hS.get 1 rfl)).cons (hS.get 0 rfl)
    have hv18 : sl _ 18 = .int .i64 t22 := hp 1 (by decide)
    have hBw24_w24 := Below.refl w24.heap.size w24
    have hS := hS.cons hv18
    clear hp hI hv18
    refine hK21 _ _ ?_
    (try clear hK21 K21)
    refine wp_block ?_
    refine wp_seq_k (fun K25 hK25 => ?_)
    refine reg_seq (N := 74) (bs := [(18, .int .i64 t22), (5, .pointer (some ⟨g14, 0, none⟩)), (2, .pointer (some ⟨g4, 0, none⟩))]) (I := fun x => Below w.heap.size w x ∧ Below w3.heap.size w3 x ∧ Below w10.heap.size w10 x ∧ Below w16.heap.size w16 x ∧ Below w24.heap.size w24 x) (ps := [VB (decide (t22 = 0)), VB (decide (t22 = 0))]) (by kernel_rfl) ?_ ?_ rfl hS ⟨hBw24_w, hBw24_w3, hBw24_w10, hBw24_w16, hBw24_w24⟩ ?_ ?_
    · exact fun x y hI hb => ⟨below_step hI.1 hb, below_step hI.2.1 hb, below_step hI.2.2.1 hb, below_step hI.2.2.2.1 hb, below_step hI.2.2.2.2 hb⟩
    · exact .v (.v (.nil))
    · refine .on rfl (fun a w hS hI hp => does_val (x_bin rfl (hS.get 0 rfl) (rfl) (b_eql _ _ _ _ _ _)) rfl) ?_
      refine .asg 0 rfl rfl rfl rfl ?_
      exact .nil
    clear hS
    intro at26 w27 hS hI hp
    have hBw27_w := hI.1
    have hBw27_w3 := hI.2.1
    have hBw27_w10 := hI.2.2.1
    have hBw27_w16 := hI.2.2.2.1
    have hBw27_w24 := hI.2.2.2.2
    have hv23 : sl _ 23 = .bool (decide (t22 = 0)) := hp 1 (by decide)
    have hBw27_w27 := Below.refl w27.heap.size w27
    have hS := hS.cons hv23
    clear hp hI hv23
    refine hK25 _ _ ?_
    (try clear hK25 K25)
    refine wp_cond_false ((hS.get 0 rfl).trans (bF (decide_eq_false c3))) ?_
    refine wp_seq_k (fun K28 hK28 => ?_)
    refine reg_seq (N := 74) (bs := [(23, .bool (decide (t22 = 0))), (18, .int .i64 t22), (5, .pointer (some ⟨g14, 0, none⟩)), (2, .pointer (some ⟨g4, 0, none⟩))]) (I := fun x => Below w.heap.size w x ∧ Below w3.heap.size w3 x ∧ Below w10.heap.size w10 x ∧ Below w16.heap.size w16 x ∧ Below w27.heap.size w27 x) (ps := [VB (decide (t22 = 1)), VB (decide (t22 = 1))]) (by kernel_rfl) ?_ ?_ rfl hS ⟨hBw27_w, hBw27_w3, hBw27_w10, hBw27_w16, hBw27_w27⟩ ?_ ?_
    · exact fun x y hI hb => ⟨below_step hI.1 hb, below_step hI.2.1 hb, below_step hI.2.2.1 hb, below_step hI.2.2.2.1 hb, below_step hI.2.2.2.2 hb⟩
    · exact .v (.v (.nil))
    · refine .on rfl (fun a w hS hI hp => does_val (x_bin rfl (hS.get 1 rfl) (rfl) (b_eql _ _ _ _ _ _)) rfl) ?_
      refine .asg 0 rfl rfl rfl rfl ?_
      exact .nil
    clear hS
    intro at29 w30 hS hI hp
    have hBw30_w := hI.1
    have hBw30_w3 := hI.2.1
    have hBw30_w10 := hI.2.2.1
    have hBw30_w16 := hI.2.2.2.1
    have hBw30_w27 := hI.2.2.2.2
    replace hS := (((hS.nil).cons (hS.get 3 rfl)).cons (hS.get 2 rfl)).cons (hS.get 1 rfl)
    have hv34 : sl _ 34 = .bool (decide (t22 = 1)) := hp 1 (by decide)
    have hBw30_w30 := Below.refl w30.heap.size w30
    have hS := hS.cons hv34
    clear hp hI hv34
    refine hK28 _ _ ?_
    (try clear hK28 K28)
    refine wp_cond_true ((hS.get 0 rfl).trans (bT (decide_eq_true c4))) ?_
    refine wp_seq_k (fun K31 hK31 => ?_)
    refine reg_seq_tail 2 (N := 74) (bs := [(34, .bool (decide (t22 = 1))), (18, .int .i64 t22), (5, .pointer (some ⟨g14, 0, none⟩)), (2, .pointer (some ⟨g4, 0, none⟩))]) (I := fun x => Below w.heap.size w x ∧ Below w3.heap.size w3 x ∧ Below w10.heap.size w10 x ∧ Below w16.heap.size w16 x ∧ Below w30.heap.size w30 x) (ps := [VP g14 9, VP g14 10]) (by kernel_rfl) ?_ ?_ rfl hS ⟨hBw30_w, hBw30_w3, hBw30_w10, hBw30_w16, hBw30_w30⟩ ?_ ?_
    · exact fun x y hI hb => ⟨below_step hI.1 hb, below_step hI.2.1 hb, below_step hI.2.2.1 hb, below_step hI.2.2.2.1 hb, below_step hI.2.2.2.2 hb⟩
    · exact .v (.v (.nil))
    · refine .on rfl (fun a w hS hI hp => does_val (x_fieldE (b := 0) rfl (hS.get 2 rfl) Try.underlying29 rfl rfl (by kernel_rfl)) rfl) ?_
      refine .on rfl (fun a w hS hI hp => does_val (x_fieldE (b := 9) rfl (hp.V 0 rfl rfl) Try.underlying25 rfl rfl (by kernel_rfl)) rfl) ?_
      exact .nil
    clear hS
    intro at32 w33 hS hI hp
    have hBw33_w := hI.1
    have hBw33_w3 := hI.2.1
    have hBw33_w10 := hI.2.2.1
    have hBw33_w16 := hI.2.2.2.1
    have hBw33_w30 := hI.2.2.2.2
    replace hS := ((hS.nil).cons (hS.get 3 rfl)).cons (hS.get 2 rfl)
    have hv37 : sl _ 37 = .pointer (some ⟨g14, 10, none⟩) := hp 1 (by decide)
    have hBw33_w33 := Below.refl w33.heap.size w33
    have hS := hS.cons hv37
    clear hp hI hv37
    show wpList _ _ _ [_] _ _
    refine list_step rfl (does_store (g := g14) (off := 10) (v := .int .i64 9) (new := (carillonlaw07_BodyFields.c1 a0_0 a0_1 a0_2 a0_3 a0_4 a0_5 a0_6 a0_7 a0_8 a0_9 9 a0_11 a0_12 a0_13 a0_14 a0_15 a0_16 a0_17 a0_18 a0_19 a0_20 a0_21 a0_22)) rfl (hS.get 0 rfl) (rfl) ((hBw33_w16.block g14 (blk_lt hbxw16)).trans hbxw16) (by kernel_rfl) (by kernel_rfl) (by kernel_rfl) (by kernel_rfl)) ?_
    rintro vw34 w34 ⟨rfl, hbxw34, hT⟩
    have hBw34_w := hT.below hBw33_w (Nat.le_trans (hBw10_w).size hgeg14) (hBw33_w).size
    have hBw34_w3 := hT.below hBw33_w3 (Nat.le_trans (hBw10_w3).size hgeg14) (hBw33_w3).size
    have hBw34_w10 := hT.below hBw33_w10 hgeg14 (hBw33_w10).size
    have hBw34_w34 := Below.refl w34.heap.size w34
    clear hT
    refine wpList_nil ?_
    refine hK31 _ _ ?_
    (try clear hK31 K31)
    refine reg_seq (N := 74) (bs := [(37, .pointer (some ⟨g14, 10, none⟩)), (5, .pointer (some ⟨g14, 0, none⟩)), (2, .pointer (some ⟨g4, 0, none⟩))]) (I := fun x => Below w.heap.size w x ∧ Below w3.heap.size w3 x ∧ Below w10.heap.size w10 x ∧ Below w34.heap.size w34 x) (ps := [VP g4 0, VI a0_0, VB (decide (a0_0 = 9)), VB (decide (a0_0 = 9)), VP g4 0, VI a0_0, VB (decide (a0_0 = 3)), VB (decide (a0_0 = 3)), VB (decide (a0_0 = 3)), VP g4 0, VI a0_0, VB (decide (a0_0 = 10)), VB (decide (a0_0 = 10)), VB (decide (a0_0 = 10)), VP g4 0, VI a0_0, VB (decide (a0_0 = 12)), VB (decide (a0_0 = 12)), VB (decide (a0_0 = 12)), VU, VU, VU, VB true, VB true]) (by kernel_rfl) ?_ ?_ rfl hS ⟨hBw34_w, hBw34_w3, hBw34_w10, hBw34_w34⟩ ?_ ?_
    · exact fun x y hI hb => ⟨below_step hI.1 hb, below_step hI.2.1 hb, below_step hI.2.2.1 hb, below_step hI.2.2.2 hb⟩
    · exact .v (.v (.v (.v (.v (.v (.v (.v (.v (.v (.v (.v (.v (.v (.v (.v (.v (.v (.v (.v (.v (.v (.v (.v (.nil))))))))))))))))))))))))
    · refine .on rfl (fun a w hS hI hp => does_val (x_fieldE (b := 0) rfl (hS.get 2 rfl) Try.underlying29 rfl rfl (by kernel_rfl)) rfl) ?_
      refine .on rfl (fun a w hS hI hp => does_val (x_load1 (d := .int .i64) rfl (hp.V 0 rfl rfl) (by kernel_rfl) rfl ((blk_cell (((hI.2.1).block g4 (blk_lt hbxg4)).trans hbxg4) 0).trans rfl)) rfl) ?_
      refine .on rfl (fun a w hS hI hp => does_val (x_bin rfl (hp.V 1 rfl rfl) (rfl) (b_eql _ _ _ _ _ _)) rfl) ?_
      refine .mv 2 rfl rfl rfl rfl ?_
      refine .oy 3 41 rfl rfl rfl rfl rfl ((decide_eq_false c5)) (fun a w hS hI hp => does_val (x_fieldE (b := 0) rfl (hS.get 2 rfl) Try.underlying29 rfl rfl (by kernel_rfl)) rfl) ?_
      refine .oy 3 41 rfl rfl rfl rfl rfl ((decide_eq_false c5)) (fun a w hS hI hp => does_val (x_load1 (d := .int .i64) rfl (hp.V 4 rfl rfl) (by kernel_rfl) rfl ((blk_cell (((hI.2.1).block g4 (blk_lt hbxg4)).trans hbxg4) 0).trans rfl)) rfl) ?_
      refine .oy 3 41 rfl rfl rfl rfl rfl ((decide_eq_false c5)) (fun a w hS hI hp => does_val (x_bin rfl (hp.V 5 rfl rfl) (rfl) (b_eql _ _ _ _ _ _)) rfl) ?_
      refine .on rfl (fun a w hS hI hp => does_val (x_pickF rfl ((hp.V 3 rfl rfl).trans (bF (decide_eq_false c5))) (hp.V 6 rfl rfl)) rfl) ?_
      refine .mv 7 rfl rfl rfl rfl ?_
      refine .oy 8 46 rfl rfl rfl rfl rfl ((decide_eq_false c6)) (fun a w hS hI hp => does_val (x_fieldE (b := 0) rfl (hS.get 2 rfl) Try.underlying29 rfl rfl (by kernel_rfl)) rfl) ?_
      refine .oy 8 46 rfl rfl rfl rfl rfl ((decide_eq_false c6)) (fun a w hS hI hp => does_val (x_load1 (d := .int .i64) rfl (hp.V 9 rfl rfl) (by kernel_rfl) rfl ((blk_cell (((hI.2.1).block g4 (blk_lt hbxg4)).trans hbxg4) 0).trans rfl)) rfl) ?_
      refine .oy 8 46 rfl rfl rfl rfl rfl ((decide_eq_false c6)) (fun a w hS hI hp => does_val (x_bin rfl (hp.V 10 rfl rfl) (rfl) (b_eql _ _ _ _ _ _)) rfl) ?_
      refine .on rfl (fun a w hS hI hp => does_val (x_pickF rfl ((hp.V 8 rfl rfl).trans (bF (decide_eq_false c6))) (hp.V 11 rfl rfl)) rfl) ?_
      refine .mv 12 rfl rfl rfl rfl ?_
      refine .oy 13 51 rfl rfl rfl rfl rfl ((decide_eq_false c7)) (fun a w hS hI hp => does_val (x_fieldE (b := 0) rfl (hS.get 2 rfl) Try.underlying29 rfl rfl (by kernel_rfl)) rfl) ?_
      refine .oy 13 51 rfl rfl rfl rfl rfl ((decide_eq_false c7)) (fun a w hS hI hp => does_val (x_load1 (d := .int .i64) rfl (hp.V 14 rfl rfl) (by kernel_rfl) rfl ((blk_cell (((hI.2.1).block g4 (blk_lt hbxg4)).trans hbxg4) 0).trans rfl)) rfl) ?_
      refine .oy 13 51 rfl rfl rfl rfl rfl ((decide_eq_false c7)) (fun a w hS hI hp => does_val (x_bin rfl (hp.V 15 rfl rfl) (rfl) (b_eql _ _ _ _ _ _)) rfl) ?_
      refine .on rfl (fun a w hS hI hp => does_val (x_pickF rfl ((hp.V 13 rfl rfl).trans (bF (decide_eq_false c7))) (hp.V 16 rfl rfl)) rfl) ?_
      refine .mv 17 rfl rfl rfl rfl ?_
      iterate 3 refine .sn 18 56 rfl rfl rfl rfl rfl ((decide_eq_true c8)) ?_
      refine .on rfl (fun a w hS hI hp => does_val (x_pickT rfl ((hp.V 18 rfl rfl).trans (bT (decide_eq_true c8))) (rfl)) rfl) ?_
      refine .asg 22 rfl rfl rfl rfl ?_
      exact .nil
    clear hS
    intro at35 w36 hS hI hp
    have hBw36_w := hI.1
    have hBw36_w3 := hI.2.1
    have hBw36_w10 := hI.2.2.1
    have hBw36_w34 := hI.2.2.2
    replace hS := (hS.nil).cons (hS.get 1 rfl)
    have hv6 : sl _ 6 = .bool true := hp 23 (by decide)
    have hBw36_w36 := Below.refl w36.heap.size w36
    have hS := hS.cons hv6
    clear hp hI hv6
    replace hS := ((hS.nil).cons (hS.get 0 rfl)).cons (hS.get 1 rfl)
    (try simp only [Exit.then, Exit.inBlock])
    exact J1 _ _ a0_0 a0_1 a0_2 a0_3 a0_4 a0_5 a0_6 a0_7 a0_8 a0_9 9 a0_11 a0_12 a0_13 a0_14 a0_15 a0_16 a0_17 a0_18 a0_19 a0_20 a0_21 a0_22 g14 true H hS hBw36_w (Nat.le_trans (hBw10_w).size hgeg14) ((hBw36_w34.block g14 (blk_lt hbxw34)).trans hbxw34)
  rw [if_neg c8] at H
  refine wp_seq_k (fun K21 hK21 => ?_)
  refine reg_seq (N := 74) (bs := [(5, .pointer (some ⟨g14, 0, none⟩)), (2, .pointer (some ⟨g4, 0, none⟩)), (1, .int .i64 a1)]) (I := fun x => Below w.heap.size w x ∧ Below w3.heap.size w3 x ∧ Below w10.heap.size w10 x ∧ Below w16.heap.size w16 x ∧ Below w19.heap.size w19 x) (ps := [VI a1, VI t22]) (by kernel_rfl) ?_ ?_ rfl hS ⟨hBw19_w, hBw19_w3, hBw19_w10, hBw19_w16, hBw19_w19⟩ ?_ ?_
  · exact fun x y hI hb => ⟨below_step hI.1 hb, below_step hI.2.1 hb, below_step hI.2.2.1 hb, below_step hI.2.2.2.1 hb, below_step hI.2.2.2.2 hb⟩
  · exact .v (.v (.nil))
  · refine .ms 2 rfl rfl rfl ?_
    refine .on rfl (fun a w hS hI hp => does_call (by kernel_rfl) (ar2 (hp.V 0 rfl rfl) (rfl)) ((carillonlaw00_Place.calls a1 4 t22 _  At22).mono fun _ _ h => ⟨_, h.1, h.2.below, rfl⟩)) ?_
    exact .nil
  clear hS
  intro at23 w24 hS hI hp
  have hBw24_w := hI.1
  have hBw24_w3 := hI.2.1
  have hBw24_w10 := hI.2.2.1
  have hBw24_w16 := hI.2.2.2.1
  have hBw24_w19 := hI.2.2.2.2
  replace hS := ((hS.nil).cons (hS.get 1 rfl)).cons (hS.get 0 rfl)
  have hv18 : sl _ 18 = .int .i64 t22 := hp 1 (by decide)
  have hBw24_w24 := Below.refl w24.heap.size w24
  have hS := hS.cons hv18
  clear hp hI hv18
  refine hK21 _ _ ?_
  (try clear hK21 K21)
  refine wp_block ?_
  refine wp_seq_k (fun K25 hK25 => ?_)
  refine reg_seq (N := 74) (bs := [(18, .int .i64 t22), (5, .pointer (some ⟨g14, 0, none⟩)), (2, .pointer (some ⟨g4, 0, none⟩))]) (I := fun x => Below w.heap.size w x ∧ Below w3.heap.size w3 x ∧ Below w10.heap.size w10 x ∧ Below w16.heap.size w16 x ∧ Below w24.heap.size w24 x) (ps := [VB (decide (t22 = 0)), VB (decide (t22 = 0))]) (by kernel_rfl) ?_ ?_ rfl hS ⟨hBw24_w, hBw24_w3, hBw24_w10, hBw24_w16, hBw24_w24⟩ ?_ ?_
  · exact fun x y hI hb => ⟨below_step hI.1 hb, below_step hI.2.1 hb, below_step hI.2.2.1 hb, below_step hI.2.2.2.1 hb, below_step hI.2.2.2.2 hb⟩
  · exact .v (.v (.nil))
  · refine .on rfl (fun a w hS hI hp => does_val (x_bin rfl (hS.get 0 rfl) (rfl) (b_eql _ _ _ _ _ _)) rfl) ?_
    refine .asg 0 rfl rfl rfl rfl ?_
    exact .nil
  clear hS
  intro at26 w27 hS hI hp
  have hBw27_w := hI.1
  have hBw27_w3 := hI.2.1
  have hBw27_w10 := hI.2.2.1
  have hBw27_w16 := hI.2.2.2.1
  have hBw27_w24 := hI.2.2.2.2
  have hv23 : sl _ 23 = .bool (decide (t22 = 0)) := hp 1 (by decide)
  have hBw27_w27 := Below.refl w27.heap.size w27
  have hS := hS.cons hv23
  clear hp hI hv23
  refine hK25 _ _ ?_
  (try clear hK25 K25)
  refine wp_cond_false ((hS.get 0 rfl).trans (bF (decide_eq_false c3))) ?_
  refine wp_seq_k (fun K28 hK28 => ?_)
  refine reg_seq (N := 74) (bs := [(23, .bool (decide (t22 = 0))), (18, .int .i64 t22), (5, .pointer (some ⟨g14, 0, none⟩)), (2, .pointer (some ⟨g4, 0, none⟩))]) (I := fun x => Below w.heap.size w x ∧ Below w3.heap.size w3 x ∧ Below w10.heap.size w10 x ∧ Below w16.heap.size w16 x ∧ Below w27.heap.size w27 x) (ps := [VB (decide (t22 = 1)), VB (decide (t22 = 1))]) (by kernel_rfl) ?_ ?_ rfl hS ⟨hBw27_w, hBw27_w3, hBw27_w10, hBw27_w16, hBw27_w27⟩ ?_ ?_
  · exact fun x y hI hb => ⟨below_step hI.1 hb, below_step hI.2.1 hb, below_step hI.2.2.1 hb, below_step hI.2.2.2.1 hb, below_step hI.2.2.2.2 hb⟩
  · exact .v (.v (.nil))
  · refine .on rfl (fun a w hS hI hp => does_val (x_bin rfl (hS.get 1 rfl) (rfl) (b_eql _ _ _ _ _ _)) rfl) ?_
    refine .asg 0 rfl rfl rfl rfl ?_
    exact .nil
  clear hS
  intro at29 w30 hS hI hp
  have hBw30_w := hI.1
  have hBw30_w3 := hI.2.1
  have hBw30_w10 := hI.2.2.1
  have hBw30_w16 := hI.2.2.2.1
  have hBw30_w27 := hI.2.2.2.2
  replace hS := (((hS.nil).cons (hS.get 3 rfl)).cons (hS.get 2 rfl)).cons (hS.get 1 rfl)
  have hv34 : sl _ 34 = .bool (decide (t22 = 1)) := hp 1 (by decide)
  have hBw30_w30 := Below.refl w30.heap.size w30
  have hS := hS.cons hv34
  clear hp hI hv34
  refine hK28 _ _ ?_
  (try clear hK28 K28)
  refine wp_cond_true ((hS.get 0 rfl).trans (bT (decide_eq_true c4))) ?_
  refine wp_seq_k (fun K31 hK31 => ?_)
  refine reg_seq_tail 2 (N := 74) (bs := [(34, .bool (decide (t22 = 1))), (18, .int .i64 t22), (5, .pointer (some ⟨g14, 0, none⟩)), (2, .pointer (some ⟨g4, 0, none⟩))]) (I := fun x => Below w.heap.size w x ∧ Below w3.heap.size w3 x ∧ Below w10.heap.size w10 x ∧ Below w16.heap.size w16 x ∧ Below w30.heap.size w30 x) (ps := [VP g14 9, VP g14 10]) (by kernel_rfl) ?_ ?_ rfl hS ⟨hBw30_w, hBw30_w3, hBw30_w10, hBw30_w16, hBw30_w30⟩ ?_ ?_
  · exact fun x y hI hb => ⟨below_step hI.1 hb, below_step hI.2.1 hb, below_step hI.2.2.1 hb, below_step hI.2.2.2.1 hb, below_step hI.2.2.2.2 hb⟩
  · exact .v (.v (.nil))
  · refine .on rfl (fun a w hS hI hp => does_val (x_fieldE (b := 0) rfl (hS.get 2 rfl) Try.underlying29 rfl rfl (by kernel_rfl)) rfl) ?_
    refine .on rfl (fun a w hS hI hp => does_val (x_fieldE (b := 9) rfl (hp.V 0 rfl rfl) Try.underlying25 rfl rfl (by kernel_rfl)) rfl) ?_
    exact .nil
  clear hS
  intro at32 w33 hS hI hp
  have hBw33_w := hI.1
  have hBw33_w3 := hI.2.1
  have hBw33_w10 := hI.2.2.1
  have hBw33_w16 := hI.2.2.2.1
  have hBw33_w30 := hI.2.2.2.2
  replace hS := ((hS.nil).cons (hS.get 3 rfl)).cons (hS.get 2 rfl)
  have hv37 : sl _ 37 = .pointer (some ⟨g14, 10, none⟩) := hp 1 (by decide)
  have hBw33_w33 := Below.refl w33.heap.size w33
  have hS := hS.cons hv37
  clear hp hI hv37
  show wpList _ _ _ [_] _ _
  refine list_step rfl (does_store (g := g14) (off := 10) (v := .int .i64 9) (new := (carillonlaw07_BodyFields.c1 a0_0 a0_1 a0_2 a0_3 a0_4 a0_5 a0_6 a0_7 a0_8 a0_9 9 a0_11 a0_12 a0_13 a0_14 a0_15 a0_16 a0_17 a0_18 a0_19 a0_20 a0_21 a0_22)) rfl (hS.get 0 rfl) (rfl) ((hBw33_w16.block g14 (blk_lt hbxw16)).trans hbxw16) (by kernel_rfl) (by kernel_rfl) (by kernel_rfl) (by kernel_rfl)) ?_
  rintro vw34 w34 ⟨rfl, hbxw34, hT⟩
  have hBw34_w := hT.below hBw33_w (Nat.le_trans (hBw10_w).size hgeg14) (hBw33_w).size
  have hBw34_w3 := hT.below hBw33_w3 (Nat.le_trans (hBw10_w3).size hgeg14) (hBw33_w3).size
  have hBw34_w10 := hT.below hBw33_w10 hgeg14 (hBw33_w10).size
  have hBw34_w34 := Below.refl w34.heap.size w34
  clear hT
  refine wpList_nil ?_
  refine hK31 _ _ ?_
  (try clear hK31 K31)
  refine reg_seq (N := 74) (bs := [(37, .pointer (some ⟨g14, 10, none⟩)), (5, .pointer (some ⟨g14, 0, none⟩)), (2, .pointer (some ⟨g4, 0, none⟩))]) (I := fun x => Below w.heap.size w x ∧ Below w3.heap.size w3 x ∧ Below w10.heap.size w10 x ∧ Below w34.heap.size w34 x) (ps := [VP g4 0, VI a0_0, VB (decide (a0_0 = 9)), VB (decide (a0_0 = 9)), VP g4 0, VI a0_0, VB (decide (a0_0 = 3)), VB (decide (a0_0 = 3)), VB (decide (a0_0 = 3)), VP g4 0, VI a0_0, VB (decide (a0_0 = 10)), VB (decide (a0_0 = 10)), VB (decide (a0_0 = 10)), VP g4 0, VI a0_0, VB (decide (a0_0 = 12)), VB (decide (a0_0 = 12)), VB (decide (a0_0 = 12)), VP g4 0, VI a0_0, VB (decide (a0_0 = 13)), VB (decide (a0_0 = 13)), VB (decide (a0_0 = 13))]) (by kernel_rfl) ?_ ?_ rfl hS ⟨hBw34_w, hBw34_w3, hBw34_w10, hBw34_w34⟩ ?_ ?_
  · exact fun x y hI hb => ⟨below_step hI.1 hb, below_step hI.2.1 hb, below_step hI.2.2.1 hb, below_step hI.2.2.2 hb⟩
  · exact .v (.v (.v (.v (.v (.v (.v (.v (.v (.v (.v (.v (.v (.v (.v (.v (.v (.v (.v (.v (.v (.v (.v (.v (.nil))))))))))))))))))))))))
  · refine .on rfl (fun a w hS hI hp => does_val (x_fieldE (b := 0) rfl (hS.get 2 rfl) Try.underlying29 rfl rfl (by kernel_rfl)) rfl) ?_
    refine .on rfl (fun a w hS hI hp => does_val (x_load1 (d := .int .i64) rfl (hp.V 0 rfl rfl) (by kernel_rfl) rfl ((blk_cell (((hI.2.1).block g4 (blk_lt hbxg4)).trans hbxg4) 0).trans rfl)) rfl) ?_
    refine .on rfl (fun a w hS hI hp => does_val (x_bin rfl (hp.V 1 rfl rfl) (rfl) (b_eql _ _ _ _ _ _)) rfl) ?_
    refine .mv 2 rfl rfl rfl rfl ?_
    refine .oy 3 41 rfl rfl rfl rfl rfl ((decide_eq_false c5)) (fun a w hS hI hp => does_val (x_fieldE (b := 0) rfl (hS.get 2 rfl) Try.underlying29 rfl rfl (by kernel_rfl)) rfl) ?_
    refine .oy 3 41 rfl rfl rfl rfl rfl ((decide_eq_false c5)) (fun a w hS hI hp => does_val (x_load1 (d := .int .i64) rfl (hp.V 4 rfl rfl) (by kernel_rfl) rfl ((blk_cell (((hI.2.1).block g4 (blk_lt hbxg4)).trans hbxg4) 0).trans rfl)) rfl) ?_
    refine .oy 3 41 rfl rfl rfl rfl rfl ((decide_eq_false c5)) (fun a w hS hI hp => does_val (x_bin rfl (hp.V 5 rfl rfl) (rfl) (b_eql _ _ _ _ _ _)) rfl) ?_
    refine .on rfl (fun a w hS hI hp => does_val (x_pickF rfl ((hp.V 3 rfl rfl).trans (bF (decide_eq_false c5))) (hp.V 6 rfl rfl)) rfl) ?_
    refine .mv 7 rfl rfl rfl rfl ?_
    refine .oy 8 46 rfl rfl rfl rfl rfl ((decide_eq_false c6)) (fun a w hS hI hp => does_val (x_fieldE (b := 0) rfl (hS.get 2 rfl) Try.underlying29 rfl rfl (by kernel_rfl)) rfl) ?_
    refine .oy 8 46 rfl rfl rfl rfl rfl ((decide_eq_false c6)) (fun a w hS hI hp => does_val (x_load1 (d := .int .i64) rfl (hp.V 9 rfl rfl) (by kernel_rfl) rfl ((blk_cell (((hI.2.1).block g4 (blk_lt hbxg4)).trans hbxg4) 0).trans rfl)) rfl) ?_
    refine .oy 8 46 rfl rfl rfl rfl rfl ((decide_eq_false c6)) (fun a w hS hI hp => does_val (x_bin rfl (hp.V 10 rfl rfl) (rfl) (b_eql _ _ _ _ _ _)) rfl) ?_
    refine .on rfl (fun a w hS hI hp => does_val (x_pickF rfl ((hp.V 8 rfl rfl).trans (bF (decide_eq_false c6))) (hp.V 11 rfl rfl)) rfl) ?_
    refine .mv 12 rfl rfl rfl rfl ?_
    refine .oy 13 51 rfl rfl rfl rfl rfl ((decide_eq_false c7)) (fun a w hS hI hp => does_val (x_fieldE (b := 0) rfl (hS.get 2 rfl) Try.underlying29 rfl rfl (by kernel_rfl)) rfl) ?_
    refine .oy 13 51 rfl rfl rfl rfl rfl ((decide_eq_false c7)) (fun a w hS hI hp => does_val (x_load1 (d := .int .i64) rfl (hp.V 14 rfl rfl) (by kernel_rfl) rfl ((blk_cell (((hI.2.1).block g4 (blk_lt hbxg4)).trans hbxg4) 0).trans rfl)) rfl) ?_
    refine .oy 13 51 rfl rfl rfl rfl rfl ((decide_eq_false c7)) (fun a w hS hI hp => does_val (x_bin rfl (hp.V 15 rfl rfl) (rfl) (b_eql _ _ _ _ _ _)) rfl) ?_
    refine .on rfl (fun a w hS hI hp => does_val (x_pickF rfl ((hp.V 13 rfl rfl).trans (bF (decide_eq_false c7))) (hp.V 16 rfl rfl)) rfl) ?_
    refine .mv 17 rfl rfl rfl rfl ?_
    refine .oy 18 56 rfl rfl rfl rfl rfl ((decide_eq_false c8)) (fun a w hS hI hp => does_val (x_fieldE (b := 0) rfl (hS.get 2 rfl) Try.underlying29 rfl rfl (by kernel_rfl)) rfl) ?_
    refine .oy 18 56 rfl rfl rfl rfl rfl ((decide_eq_false c8)) (fun a w hS hI hp => does_val (x_load1 (d := .int .i64) rfl (hp.V 19 rfl rfl) (by kernel_rfl) rfl ((blk_cell (((hI.2.1).block g4 (blk_lt hbxg4)).trans hbxg4) 0).trans rfl)) rfl) ?_
    refine .oy 18 56 rfl rfl rfl rfl rfl ((decide_eq_false c8)) (fun a w hS hI hp => does_val (x_bin rfl (hp.V 20 rfl rfl) (rfl) (b_eql _ _ _ _ _ _)) rfl) ?_
    refine .on rfl (fun a w hS hI hp => does_val (x_pickF rfl ((hp.V 18 rfl rfl).trans (bF (decide_eq_false c8))) (hp.V 21 rfl rfl)) rfl) ?_
    refine .asg 22 rfl rfl rfl rfl ?_
    exact .nil
  clear hS
  intro at35 w36 hS hI hp
  have hBw36_w := hI.1
  have hBw36_w3 := hI.2.1
  have hBw36_w10 := hI.2.2.1
  have hBw36_w34 := hI.2.2.2
  replace hS := (hS.nil).cons (hS.get 1 rfl)
  have hv6 : sl _ 6 = .bool (decide (a0_0 = 13)) := hp 23 (by decide)
  have hBw36_w36 := Below.refl w36.heap.size w36
  have hS := hS.cons hv6
  clear hp hI hv6
  replace hS := ((hS.nil).cons (hS.get 0 rfl)).cons (hS.get 1 rfl)
  (try simp only [Exit.then, Exit.inBlock])
  exact J1 _ _ a0_0 a0_1 a0_2 a0_3 a0_4 a0_5 a0_6 a0_7 a0_8 a0_9 9 a0_11 a0_12 a0_13 a0_14 a0_15 a0_16 a0_17 a0_18 a0_19 a0_20 a0_21 a0_22 g14 (decide (a0_0 = 13)) H hS hBw36_w (Nat.le_trans (hBw10_w).size hgeg14) ((hBw36_w34.block g14 (blk_lt hbxw34)).trans hbxw34)
def carillonlaw07_BodyFields.Pure : Prop := ∀ (a0_0 a0_1 a0_2 a0_3 a0_4 a0_5 a0_6 a0_7 a0_8 a0_9 a0_10 a0_11 a0_12 a0_13 a0_14 a0_15 a0_16 a0_17 a0_18 a0_19 a0_20 a0_21 a0_22 a1 : Int), (Lit.int .i64 a0_0).wf = true → (Lit.int .i64 a0_1).wf = true → (Lit.int .i64 a0_2).wf = true → (Lit.int .i64 a0_3).wf = true → (Lit.int .u64 a0_4).wf = true → (Lit.int .i64 a0_5).wf = true → (Lit.int .i64 a0_6).wf = true → (Lit.int .i64 a0_7).wf = true → (Lit.int .i64 a0_8).wf = true → (Lit.int .u64 a0_9).wf = true → (Lit.int .i64 a0_10).wf = true → (Lit.int .i64 a0_11).wf = true → (Lit.int .i64 a0_12).wf = true → (Lit.int .i64 a0_13).wf = true → (Lit.int .i64 a0_14).wf = true → (Lit.int .i64 a0_15).wf = true → (Lit.int .i64 a0_16).wf = true → (Lit.int .u64 a0_17).wf = true → (Lit.int .i64 a0_18).wf = true → (Lit.int .i64 a0_19).wf = true → (Lit.int .i64 a0_20).wf = true → (Lit.int .i64 a0_21).wf = true → (Lit.int .i64 a0_22).wf = true → (Lit.int .i64 a1).wf = true → ∃ k, carillonlaw07_BodyFields.f k a0_0 a0_1 a0_2 a0_3 a0_4 a0_5 a0_6 a0_7 a0_8 a0_9 a0_10 a0_11 a0_12 a0_13 a0_14 a0_15 a0_16 a0_17 a0_18 a0_19 a0_20 a0_21 a0_22 a1 = some true
theorem carillonlaw07_BodyFields.walk (P : carillonlaw07_BodyFields.Pure) (a0_0 a0_1 a0_2 a0_3 a0_4 a0_5 a0_6 a0_7 a0_8 a0_9 a0_10 a0_11 a0_12 a0_13 a0_14 a0_15 a0_16 a0_17 a0_18 a0_19 a0_20 a0_21 a0_22 a1 : Int) (w : World) (w0_0 : (Lit.int .i64 a0_0).wf = true) (w0_1 : (Lit.int .i64 a0_1).wf = true) (w0_2 : (Lit.int .i64 a0_2).wf = true) (w0_3 : (Lit.int .i64 a0_3).wf = true) (w0_4 : (Lit.int .u64 a0_4).wf = true) (w0_5 : (Lit.int .i64 a0_5).wf = true) (w0_6 : (Lit.int .i64 a0_6).wf = true) (w0_7 : (Lit.int .i64 a0_7).wf = true) (w0_8 : (Lit.int .i64 a0_8).wf = true) (w0_9 : (Lit.int .u64 a0_9).wf = true) (w0_10 : (Lit.int .i64 a0_10).wf = true) (w0_11 : (Lit.int .i64 a0_11).wf = true) (w0_12 : (Lit.int .i64 a0_12).wf = true) (w0_13 : (Lit.int .i64 a0_13).wf = true) (w0_14 : (Lit.int .i64 a0_14).wf = true) (w0_15 : (Lit.int .i64 a0_15).wf = true) (w0_16 : (Lit.int .i64 a0_16).wf = true) (w0_17 : (Lit.int .u64 a0_17).wf = true) (w0_18 : (Lit.int .i64 a0_18).wf = true) (w0_19 : (Lit.int .i64 a0_19).wf = true) (w0_20 : (Lit.int .i64 a0_20).wf = true) (w0_21 : (Lit.int .i64 a0_21).wf = true) (w0_22 : (Lit.int .i64 a0_22).wf = true) (w1 : (Lit.int .i64 a1).wf = true) :
    Calls Try.prog 4 #[(carillonlaw07_BodyFields.v0 a0_0 a0_1 a0_2 a0_3 a0_4 a0_5 a0_6 a0_7 a0_8 a0_9 a0_10 a0_11 a0_12 a0_13 a0_14 a0_15 a0_16 a0_17 a0_18 a0_19 a0_20 a0_21 a0_22), .int .i64 a1] w fun e w' => e = .returned (.bool true) ∧ Below w.heap.size w w' := by
  obtain ⟨k, h⟩ := P a0_0 a0_1 a0_2 a0_3 a0_4 a0_5 a0_6 a0_7 a0_8 a0_9 a0_10 a0_11 a0_12 a0_13 a0_14 a0_15 a0_16 a0_17 a0_18 a0_19 a0_20 a0_21 a0_22 a1 w0_0 w0_1 w0_2 w0_3 w0_4 w0_5 w0_6 w0_7 w0_8 w0_9 w0_10 w0_11 w0_12 w0_13 w0_14 w0_15 w0_16 w0_17 w0_18 w0_19 w0_20 w0_21 w0_22 w1
  refine (carillonlaw07_BodyFields.calls k a0_0 a0_1 a0_2 a0_3 a0_4 a0_5 a0_6 a0_7 a0_8 a0_9 a0_10 a0_11 a0_12 a0_13 a0_14 a0_15 a0_16 a0_17 a0_18 a0_19 a0_20 a0_21 a0_22 a1 w  h).mono ?_
  rintro e w' ⟨rfl, hd⟩
  exact ⟨rfl, hd⟩
end Go.Proofs.Ytpoocfapmgmfkaa.P
