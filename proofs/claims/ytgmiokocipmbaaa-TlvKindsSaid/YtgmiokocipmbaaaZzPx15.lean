/- Functions and loops of the given program as Lean functions, and that the code comes to what they say: written by this session's own program; Lean checks it. -/
import Derived.Test.YtgmiokocipmbaaaZzPx0
import Derived.Test.YtgmiokocipmbaaaZzPx2
import Derived.Test.YtgmiokocipmbaaaZzPx3
import Derived.Test.YtgmiokocipmbaaaZzPx11
import Derived.Test.YtgmiokocipmbaaaZzPx12
import Derived.Test.YtgmiokocipmbaaaZzPx13
import Derived.Test.YtgmiokocipmbaaaZzPx14
namespace Go.Proofs.Ytgmiokocipmbaaa.P
open Go.RowKit Go.Proofs.YtgmiokocipmbaaaW.PrintWords Go.Proofs.YtgmiokocipmbaaaW.PrintLast Go.Proofs.YtgmiokocipmbaaaW.PrintMore
attribute [local go_sem] max2_int min2_int max_two min_two max_three min_three max_four min_four   -- for this text's walks alone
set_option linter.unusedVariables false
set_option linter.unusedSimpArgs false
/-! ### carillonlaw08_TlvKinds: function 8: by our own printer -/
def carillonlaw08_TlvKinds.f (k : Nat) (l0 : List Int) (a1 : Int) (a2 : ByteArray) (a3 a4_0 : Int) (a4_1 : ByteArray) : Option (Bool) := if (l0.length : Int) > 40 then ((carillonlaw08_awake.f k ).bind fun t10 => (some t10)) else (if (a2.size : Int) > 900 then ((carillonlaw08_awake.f k ).bind fun t10 => (some t10)) else (if (a4_1.size : Int) > 900 then ((carillonlaw08_awake.f k ).bind fun t10 => (some t10)) else ((carillonlaw00_Ids.f l0).bind fun t10 => ((tlv_Path.f k t10).bind fun t11 => ((carillonref08_Path.f k l0).bind fun t19 => ((tlv_Manage.f a1 a2).bind fun t27 => ((carillonref08_Manage.f k a1 a2).bind fun t35 => ((tlv_Fault.f k a3 a1).bind fun t43 => ((carillonref08_Fault.f k a3 a1).bind fun t51 => (if ((t11.1 == t19.1) && (t11.2.1.toList == t19.2.1.toList)) = true then (if (t11.2.2 == t19.2.2) = true then (if ((t27.1 == t35.1) && (t27.2.1.toList == t35.2.1.toList)) = true then (if (t27.2.2 == t35.2.2) = true then (if ((t43.1 == t51.1) && (t43.2.1.toList == t51.2.1.toList)) = true then (if (t43.2.2 == t51.2.2) = true then ((tlv_PathOf.f k a4_0 a4_1).bind fun t63 => ((carillonref08_PathOf.f k a4_0 a4_1).bind fun t68 => ((tlv_ManageOf.f k a4_0 a4_1).bind fun t73 => ((carillonref08_ManageOf.f k a4_0 a4_1).bind fun t77 => ((tlv_FaultOf.f k a4_0 a4_1).bind fun t81 => ((carillonref08_FaultOf.f k a4_0 a4_1).bind fun t85 => ((carillonlaw00_SameIds.f k t63.1 t68.1).bind fun t89 => (if t89 = true then (if (t63.2 == t68.2) = true then (if t73.1 = t77.1 then (if (t73.2.1.toList == t77.2.1.toList) = true then (if (t73.2.2 == t77.2.2) = true then (if t81.1 = t85.1 then (if t81.2.1 = t85.2.1 then (if (t81.2.2 == t85.2.2) = true then ((carillonlaw08_awake.f k ).bind fun t90 => (some t90)) else (some false)) else (some false)) else (some false)) else (some false)) else (some false)) else (some false)) else (some false)) else (some false))))))))) else (some false)) else (some false)) else (some false)) else (some false)) else (some false)) else (some false)))))))))))
open Go.Proofs.Ytgmiokocipmbaaa.E in
set_option maxRecDepth 100000 in
theorem carillonlaw08_TlvKinds.neq26 (x y : Operand) (w : World) (a0 : Int) (a1 : ByteArray) (b0 : Int) (b1 : ByteArray) : (do eqGuard .neq 26 x y (.agg #[.int .i64 a0, .string a1]) (.agg #[.int .i64 b0, .string b1]); binOp .neq 26 (.agg #[.int .i64 a0, .string a1]) (.agg #[.int .i64 b0, .string b1]) : Sem Value).run Try.prog w = .ok (.bool (!((a0 == b0) && (a1.toList == b1.toList)))) w := by
  have hu3 := Try.underlying3
  have hu9 := Try.underlying9
  have hu26 := Try.underlying26
  conv => lhs; simp [eqGuard, go_sem, hu3, hu9, hu26]
  exact ite_nand (ite_nlast)
open Go.Proofs.Ytgmiokocipmbaaa.E in
set_option maxHeartbeats 60000000 in
set_option maxRecDepth 100000 in
theorem carillonlaw08_TlvKinds.calls (k : Nat) (A0 : Option Addr) (cp0 : Nat) (l0 : List Int) (a1 : Int) (a2 : ByteArray) (a3 a4_0 : Int) (a4_1 : ByteArray) (w : World) (HR0 : Kd.C (Kd.int .u64) w A0 l0.length l0) (HC0 : l0.length ≤ cp0) (h : carillonlaw08_TlvKinds.f k l0 a1 a2 a3 a4_0 a4_1 = some true) :
    Calls Try.prog 8 #[.slice A0 l0.length cp0, .int .i64 a1, .string a2, .int .i64 a3, .agg #[.int .i64 a4_0, .string a4_1]] w fun e w' => e = .returned (.bool true) ∧ Below w.heap.size w w' := by
  have H := h
  clear h
  unfold carillonlaw08_TlvKinds.f at H
  by_cases c1 : (l0.length : Int) > 40
  · rw [if_pos c1] at H
    obtain ⟨t10, At10, H⟩ := Option.bind_eq_some_iff.mp H
    have hret := Option.some.inj H
    clear H
    refine calls_of_wp (fn := Try.f8) (by kernel_rfl) rfl ?_
    have hS := St.enter #[.slice A0 l0.length cp0, .int .i64 a1, .string a2, .int .i64 a3, .agg #[.int .i64 a4_0, .string a4_1]] 192 (by simp) [(0, .slice A0 l0.length cp0), (1, .int .i64 a1), (2, .string a2), (3, .int .i64 a3), (4, .agg #[.int .i64 a4_0, .string a4_1])] (by simp)
    have HB0 := Below.refl w.heap.size w
    refine wp_seq_k (fun K1 hK1 => ?_)
    refine reg_seq (N := 192) (bs := [(0, .slice A0 l0.length cp0), (1, .int .i64 a1), (2, .string a2), (3, .int .i64 a3), (4, .agg #[.int .i64 a4_0, .string a4_1])]) (I := fun x => Below w.heap.size w x) (ps := [IsB #[.int .i64 a4_0, .string a4_1] 26 w.heap.size, VB false]) (by kernel_rfl) ?_ ?_ rfl hS HB0 ?_ ?_
    · exact fun x y hI hb => below_step hI hb
    · exact .cons (Stays.b _ _ _) (.v (.nil))
    · refine .on rfl (fun a w hS hI hp => does_var (x_box rfl (congrArg Value.cells (hS.get 4 rfl))) (hI).size) ?_
      refine .on rfl (fun a w hS hI hp => does_val (x_assign rfl (rfl)) rfl) ?_
      exact .nil
    clear hS
    intro at2 w3 hS hI hp
    have hBw3_w := hI
    replace hS := ((((hS.nil).cons (hS.get 3 rfl)).cons (hS.get 2 rfl)).cons (hS.get 1 rfl)).cons (hS.get 0 rfl)
    obtain ⟨g4, hv9, hgeg4, hbxg4⟩ := (show IsB _ 26 _ (sl _ 9) _ from hp 0 (by decide))
    have hBw3_w3 := Below.refl w3.heap.size w3
    have hS := hS.cons hv9
    clear hp hI hv9
    refine hK1 _ _ ?_
    (try clear hK1 K1)
    refine wp_seq_k (fun K5 hK5 => ?_)
    refine wp_seq_k (fun K6 hK6 => ?_)
    refine reg_seq (N := 192) (bs := [(9, .pointer (some ⟨g4, 0, none⟩)), (0, .slice A0 l0.length cp0), (1, .int .i64 a1), (2, .string a2), (3, .int .i64 a3)]) (I := fun x => Below w.heap.size w x ∧ Below w3.heap.size w3 x) (ps := [IsV (.slice A0 l0.length cp0), VI (l0.length : Int), VB (decide ((l0.length : Int) > 40)), VB (decide ((l0.length : Int) > 40)), VU, VU, VU, VB true, VB true, VU, VU, VU, VU, VB true]) (by kernel_rfl) ?_ ?_ rfl hS ⟨hBw3_w, hBw3_w3⟩ ?_ ?_
    · exact fun x y hI hb => ⟨below_step hI.1 hb, below_step hI.2 hb⟩
    · exact .v (.v (.v (.v (.v (.v (.v (.v (.v (.v (.v (.v (.v (.v (.nil))))))))))))))
    · refine .ms 1 rfl rfl rfl ?_
      refine .on rfl (fun a w hS hI hp => does_val (x_len (e := 58) rfl (by kernel_rfl) (hp.V 0 rfl rfl)) rfl) ?_
      refine .on rfl (fun a w hS hI hp => does_val (x_bin rfl (hp.V 1 rfl rfl) (rfl) (b_gtr _ _ _ _ _ _)) rfl) ?_
      refine .mv 2 rfl rfl rfl rfl ?_
      iterate 3 refine .sn 3 42 rfl rfl rfl rfl rfl ((decide_eq_true c1)) ?_
      refine .on rfl (fun a w hS hI hp => does_val (x_pickT rfl ((hp.V 3 rfl rfl).trans (bT (decide_eq_true c1))) (rfl)) rfl) ?_
      refine .mv 7 rfl rfl rfl rfl ?_
      iterate 4 refine .sn 8 47 rfl rfl rfl rfl rfl rfl ?_
      refine .on rfl (fun a w hS hI hp => does_val (x_pickT rfl ((hp.V 8 rfl rfl).trans (bT rfl)) (rfl)) rfl) ?_
      exact .nil
    clear hS
    intro at7 w8 hS hI hp
    have hBw8_w := hI.1
    have hBw8_w3 := hI.2
    have hv52 : sl _ 52 = .bool true := hp 13 (by decide)
    have hBw8_w8 := Below.refl w8.heap.size w8
    have hS := hS.cons hv52
    clear hp hI hv52
    refine hK6 _ _ ?_
    (try clear hK6 K6)
    refine wp_cond_true ((hS.get 0 rfl).trans (bT rfl)) ?_
    refine wp_seq_k (fun K9 hK9 => ?_)
    refine reg_seq (N := 192) (bs := [(52, .bool true), (9, .pointer (some ⟨g4, 0, none⟩)), (0, .slice A0 l0.length cp0), (1, .int .i64 a1), (2, .string a2), (3, .int .i64 a3)]) (I := fun x => Below w.heap.size w x ∧ Below w3.heap.size w3 x ∧ Below w8.heap.size w8 x) (ps := [VB t10, VB t10]) (by kernel_rfl) ?_ ?_ rfl hS ⟨hBw8_w, hBw8_w3, hBw8_w8⟩ ?_ ?_
    · exact fun x y hI hb => ⟨below_step hI.1 hb, below_step hI.2.1 hb, below_step hI.2.2 hb⟩
    · exact .v (.v (.nil))
    · refine .on rfl (fun a w hS hI hp => does_call (by kernel_rfl) rfl ((carillonlaw08_awake.calls k  t10 _  At10).mono fun _ _ h => ⟨_, h.1, h.2, rfl⟩)) ?_
      refine .asg 0 rfl rfl rfl rfl ?_
      exact .nil
    clear hS
    intro at11 w12 hS hI hp
    have hBw12_w := hI.1
    have hBw12_w3 := hI.2.1
    have hBw12_w8 := hI.2.2
    replace hS := hS.nil
    have hv10 : sl _ 10 = .bool t10 := hp 1 (by decide)
    have hBw12_w12 := Below.refl w12.heap.size w12
    have hS := hS.cons hv10
    clear hp hI hv10
    refine hK9 _ _ ?_
    (try clear hK9 K9)
    refine wp_ret ?_
    (try simp only [Exit.then, Exit.inBlock, Exit.jump, Exit.noGoto])
    exact bodyPost_ret (v := .bool true) (by rw [results_tmp rfl]; exact congrArg (Result.ok · _) ((hS.get 0 rfl).trans (congrArg Value.bool hret))) hS.nodef ⟨rfl, hBw12_w⟩
  rw [if_neg c1] at H
  by_cases c2 : (a2.size : Int) > 900
  · rw [if_pos c2] at H
    obtain ⟨t10, At10, H⟩ := Option.bind_eq_some_iff.mp H
    have hret := Option.some.inj H
    clear H
    refine calls_of_wp (fn := Try.f8) (by kernel_rfl) rfl ?_
    have hS := St.enter #[.slice A0 l0.length cp0, .int .i64 a1, .string a2, .int .i64 a3, .agg #[.int .i64 a4_0, .string a4_1]] 192 (by simp) [(0, .slice A0 l0.length cp0), (1, .int .i64 a1), (2, .string a2), (3, .int .i64 a3), (4, .agg #[.int .i64 a4_0, .string a4_1])] (by simp)
    have HB0 := Below.refl w.heap.size w
    refine wp_seq_k (fun K1 hK1 => ?_)
    refine reg_seq (N := 192) (bs := [(0, .slice A0 l0.length cp0), (1, .int .i64 a1), (2, .string a2), (3, .int .i64 a3), (4, .agg #[.int .i64 a4_0, .string a4_1])]) (I := fun x => Below w.heap.size w x) (ps := [IsB #[.int .i64 a4_0, .string a4_1] 26 w.heap.size, VB false]) (by kernel_rfl) ?_ ?_ rfl hS HB0 ?_ ?_
    · exact fun x y hI hb => below_step hI hb
    · exact .cons (Stays.b _ _ _) (.v (.nil))
    · refine .on rfl (fun a w hS hI hp => does_var (x_box rfl (congrArg Value.cells (hS.get 4 rfl))) (hI).size) ?_
      refine .on rfl (fun a w hS hI hp => does_val (x_assign rfl (rfl)) rfl) ?_
      exact .nil
    clear hS
    intro at2 w3 hS hI hp
    have hBw3_w := hI
    replace hS := ((((hS.nil).cons (hS.get 3 rfl)).cons (hS.get 2 rfl)).cons (hS.get 1 rfl)).cons (hS.get 0 rfl)
    obtain ⟨g4, hv9, hgeg4, hbxg4⟩ := (show IsB _ 26 _ (sl _ 9) _ from hp 0 (by decide))
    have hBw3_w3 := Below.refl w3.heap.size w3
    have hS := hS.cons hv9
    clear hp hI hv9
    refine hK1 _ _ ?_
    (try clear hK1 K1)
    refine wp_seq_k (fun K5 hK5 => ?_)
    refine wp_seq_k (fun K6 hK6 => ?_)
    refine reg_seq (N := 192) (bs := [(9, .pointer (some ⟨g4, 0, none⟩)), (0, .slice A0 l0.length cp0), (1, .int .i64 a1), (2, .string a2), (3, .int .i64 a3)]) (I := fun x => Below w.heap.size w x ∧ Below w3.heap.size w3 x) (ps := [IsV (.slice A0 l0.length cp0), VI (l0.length : Int), VB (decide ((l0.length : Int) > 40)), VB (decide ((l0.length : Int) > 40)), IsV (.string a2), VI (a2.size : Int), VB (decide ((a2.size : Int) > 900)), VB (decide ((a2.size : Int) > 900)), VB (decide ((a2.size : Int) > 900)), VU, VU, VU, VU, VB true]) (by kernel_rfl) ?_ ?_ rfl hS ⟨hBw3_w, hBw3_w3⟩ ?_ ?_
    · exact fun x y hI hb => ⟨below_step hI.1 hb, below_step hI.2 hb⟩
    · exact .v (.v (.v (.v (.v (.v (.v (.v (.v (.v (.v (.v (.v (.v (.nil))))))))))))))
    · refine .ms 1 rfl rfl rfl ?_
      refine .on rfl (fun a w hS hI hp => does_val (x_len (e := 58) rfl (by kernel_rfl) (hp.V 0 rfl rfl)) rfl) ?_
      refine .on rfl (fun a w hS hI hp => does_val (x_bin rfl (hp.V 1 rfl rfl) (rfl) (b_gtr _ _ _ _ _ _)) rfl) ?_
      refine .mv 2 rfl rfl rfl rfl ?_
      refine .oy 3 42 rfl rfl rfl rfl rfl ((decide_eq_false c1)) (fun a w hS hI hp => does_val (x_move rfl (hS.get 3 rfl)) rfl) ?_
      refine .oy 3 42 rfl rfl rfl rfl rfl ((decide_eq_false c1)) (fun a w hS hI hp => does_val (x_lenS rfl (by kernel_rfl) (hp.V 4 rfl rfl)) rfl) ?_
      refine .oy 3 42 rfl rfl rfl rfl rfl ((decide_eq_false c1)) (fun a w hS hI hp => does_val (x_bin rfl (hp.V 5 rfl rfl) (rfl) (b_gtr _ _ _ _ _ _)) rfl) ?_
      refine .on rfl (fun a w hS hI hp => does_val (x_pickF rfl ((hp.V 3 rfl rfl).trans (bF (decide_eq_false c1))) (hp.V 6 rfl rfl)) rfl) ?_
      refine .mv 7 rfl rfl rfl rfl ?_
      iterate 4 refine .sn 8 47 rfl rfl rfl rfl rfl ((decide_eq_true c2)) ?_
      refine .on rfl (fun a w hS hI hp => does_val (x_pickT rfl ((hp.V 8 rfl rfl).trans (bT (decide_eq_true c2))) (rfl)) rfl) ?_
      exact .nil
    clear hS
    intro at7 w8 hS hI hp
    have hBw8_w := hI.1
    have hBw8_w3 := hI.2
    have hv52 : sl _ 52 = .bool true := hp 13 (by decide)
    have hBw8_w8 := Below.refl w8.heap.size w8
    have hS := hS.cons hv52
    clear hp hI hv52
    refine hK6 _ _ ?_
    (try clear hK6 K6)
    refine wp_cond_true ((hS.get 0 rfl).trans (bT rfl)) ?_
    refine wp_seq_k (fun K9 hK9 => ?_)
    refine reg_seq (N := 192) (bs := [(52, .bool true), (9, .pointer (some ⟨g4, 0, none⟩)), (0, .slice A0 l0.length cp0), (1, .int .i64 a1), (2, .string a2), (3, .int .i64 a3)]) (I := fun x => Below w.heap.size w x ∧ Below w3.heap.size w3 x ∧ Below w8.heap.size w8 x) (ps := [VB t10, VB t10]) (by kernel_rfl) ?_ ?_ rfl hS ⟨hBw8_w, hBw8_w3, hBw8_w8⟩ ?_ ?_
    · exact fun x y hI hb => ⟨below_step hI.1 hb, below_step hI.2.1 hb, below_step hI.2.2 hb⟩
    · exact .v (.v (.nil))
    · refine .on rfl (fun a w hS hI hp => does_call (by kernel_rfl) rfl ((carillonlaw08_awake.calls k  t10 _  At10).mono fun _ _ h => ⟨_, h.1, h.2, rfl⟩)) ?_
      refine .asg 0 rfl rfl rfl rfl ?_
      exact .nil
    clear hS
    intro at11 w12 hS hI hp
    have hBw12_w := hI.1
    have hBw12_w3 := hI.2.1
    have hBw12_w8 := hI.2.2
    replace hS := hS.nil
    have hv10 : sl _ 10 = .bool t10 := hp 1 (by decide)
    have hBw12_w12 := Below.refl w12.heap.size w12
    have hS := hS.cons hv10
    clear hp hI hv10
    refine hK9 _ _ ?_
    (try clear hK9 K9)
    refine wp_ret ?_
    (try simp only [Exit.then, Exit.inBlock, Exit.jump, Exit.noGoto])
    exact bodyPost_ret (v := .bool true) (by rw [results_tmp rfl]; exact congrArg (Result.ok · _) ((hS.get 0 rfl).trans (congrArg Value.bool hret))) hS.nodef ⟨rfl, hBw12_w⟩
  rw [if_neg c2] at H
  by_cases c3 : (a4_1.size : Int) > 900
  · rw [if_pos c3] at H
    obtain ⟨t10, At10, H⟩ := Option.bind_eq_some_iff.mp H
    have hret := Option.some.inj H
    clear H
    refine calls_of_wp (fn := Try.f8) (by kernel_rfl) rfl ?_
    have hS := St.enter #[.slice A0 l0.length cp0, .int .i64 a1, .string a2, .int .i64 a3, .agg #[.int .i64 a4_0, .string a4_1]] 192 (by simp) [(0, .slice A0 l0.length cp0), (1, .int .i64 a1), (2, .string a2), (3, .int .i64 a3), (4, .agg #[.int .i64 a4_0, .string a4_1])] (by simp)
    have HB0 := Below.refl w.heap.size w
    refine wp_seq_k (fun K1 hK1 => ?_)
    refine reg_seq (N := 192) (bs := [(0, .slice A0 l0.length cp0), (1, .int .i64 a1), (2, .string a2), (3, .int .i64 a3), (4, .agg #[.int .i64 a4_0, .string a4_1])]) (I := fun x => Below w.heap.size w x) (ps := [IsB #[.int .i64 a4_0, .string a4_1] 26 w.heap.size, VB false]) (by kernel_rfl) ?_ ?_ rfl hS HB0 ?_ ?_
    · exact fun x y hI hb => below_step hI hb
    · exact .cons (Stays.b _ _ _) (.v (.nil))
    · refine .on rfl (fun a w hS hI hp => does_var (x_box rfl (congrArg Value.cells (hS.get 4 rfl))) (hI).size) ?_
      refine .on rfl (fun a w hS hI hp => does_val (x_assign rfl (rfl)) rfl) ?_
      exact .nil
    clear hS
    intro at2 w3 hS hI hp
    have hBw3_w := hI
    replace hS := ((((hS.nil).cons (hS.get 3 rfl)).cons (hS.get 2 rfl)).cons (hS.get 1 rfl)).cons (hS.get 0 rfl)
    obtain ⟨g4, hv9, hgeg4, hbxg4⟩ := (show IsB _ 26 _ (sl _ 9) _ from hp 0 (by decide))
    have hBw3_w3 := Below.refl w3.heap.size w3
    have hS := hS.cons hv9
    clear hp hI hv9
    refine hK1 _ _ ?_
    (try clear hK1 K1)
    refine wp_seq_k (fun K5 hK5 => ?_)
    refine wp_seq_k (fun K6 hK6 => ?_)
    refine reg_seq (N := 192) (bs := [(9, .pointer (some ⟨g4, 0, none⟩)), (0, .slice A0 l0.length cp0), (1, .int .i64 a1), (2, .string a2), (3, .int .i64 a3)]) (I := fun x => Below w.heap.size w x ∧ Below w3.heap.size w3 x) (ps := [IsV (.slice A0 l0.length cp0), VI (l0.length : Int), VB (decide ((l0.length : Int) > 40)), VB (decide ((l0.length : Int) > 40)), IsV (.string a2), VI (a2.size : Int), VB (decide ((a2.size : Int) > 900)), VB (decide ((a2.size : Int) > 900)), VB (decide ((a2.size : Int) > 900)), VP g4 1, IsV (.string a4_1), VI (a4_1.size : Int), VB (decide ((a4_1.size : Int) > 900)), VB (decide ((a4_1.size : Int) > 900))]) (by kernel_rfl) ?_ ?_ rfl hS ⟨hBw3_w, hBw3_w3⟩ ?_ ?_
    · exact fun x y hI hb => ⟨below_step hI.1 hb, below_step hI.2 hb⟩
    · exact .v (.v (.v (.v (.v (.v (.v (.v (.v (.v (.v (.v (.v (.v (.nil))))))))))))))
    · refine .ms 1 rfl rfl rfl ?_
      refine .on rfl (fun a w hS hI hp => does_val (x_len (e := 58) rfl (by kernel_rfl) (hp.V 0 rfl rfl)) rfl) ?_
      refine .on rfl (fun a w hS hI hp => does_val (x_bin rfl (hp.V 1 rfl rfl) (rfl) (b_gtr _ _ _ _ _ _)) rfl) ?_
      refine .mv 2 rfl rfl rfl rfl ?_
      refine .oy 3 42 rfl rfl rfl rfl rfl ((decide_eq_false c1)) (fun a w hS hI hp => does_val (x_move rfl (hS.get 3 rfl)) rfl) ?_
      refine .oy 3 42 rfl rfl rfl rfl rfl ((decide_eq_false c1)) (fun a w hS hI hp => does_val (x_lenS rfl (by kernel_rfl) (hp.V 4 rfl rfl)) rfl) ?_
      refine .oy 3 42 rfl rfl rfl rfl rfl ((decide_eq_false c1)) (fun a w hS hI hp => does_val (x_bin rfl (hp.V 5 rfl rfl) (rfl) (b_gtr _ _ _ _ _ _)) rfl) ?_
      refine .on rfl (fun a w hS hI hp => does_val (x_pickF rfl ((hp.V 3 rfl rfl).trans (bF (decide_eq_false c1))) (hp.V 6 rfl rfl)) rfl) ?_
      refine .mv 7 rfl rfl rfl rfl ?_
      refine .oy 8 47 rfl rfl rfl rfl rfl ((decide_eq_false c2)) (fun a w hS hI hp => does_val (x_fieldE (b := 0) rfl (hS.get 0 rfl) Try.underlying26 rfl rfl (by kernel_rfl)) rfl) ?_
      refine .oy 8 47 rfl rfl rfl rfl rfl ((decide_eq_false c2)) (fun a w hS hI hp => does_val (x_load1 (d := .string) rfl (hp.V 9 rfl rfl) (by kernel_rfl) rfl ((blk_cell (((hI.2).block g4 (blk_lt hbxg4)).trans hbxg4) 1).trans rfl)) rfl) ?_
      refine .oy 8 47 rfl rfl rfl rfl rfl ((decide_eq_false c2)) (fun a w hS hI hp => does_val (x_lenS rfl (by kernel_rfl) (hp.V 10 rfl rfl)) rfl) ?_
      refine .oy 8 47 rfl rfl rfl rfl rfl ((decide_eq_false c2)) (fun a w hS hI hp => does_val (x_bin rfl (hp.V 11 rfl rfl) (rfl) (b_gtr _ _ _ _ _ _)) rfl) ?_
      refine .on rfl (fun a w hS hI hp => does_val (x_pickF rfl ((hp.V 8 rfl rfl).trans (bF (decide_eq_false c2))) (hp.V 12 rfl rfl)) rfl) ?_
      exact .nil
    clear hS
    intro at7 w8 hS hI hp
    have hBw8_w := hI.1
    have hBw8_w3 := hI.2
    have hv52 : sl _ 52 = .bool (decide ((a4_1.size : Int) > 900)) := hp 13 (by decide)
    have hBw8_w8 := Below.refl w8.heap.size w8
    have hS := hS.cons hv52
    clear hp hI hv52
    refine hK6 _ _ ?_
    (try clear hK6 K6)
    refine wp_cond_true ((hS.get 0 rfl).trans (bT (decide_eq_true c3))) ?_
    refine wp_seq_k (fun K9 hK9 => ?_)
    refine reg_seq (N := 192) (bs := [(52, .bool (decide ((a4_1.size : Int) > 900))), (9, .pointer (some ⟨g4, 0, none⟩)), (0, .slice A0 l0.length cp0), (1, .int .i64 a1), (2, .string a2), (3, .int .i64 a3)]) (I := fun x => Below w.heap.size w x ∧ Below w3.heap.size w3 x ∧ Below w8.heap.size w8 x) (ps := [VB t10, VB t10]) (by kernel_rfl) ?_ ?_ rfl hS ⟨hBw8_w, hBw8_w3, hBw8_w8⟩ ?_ ?_
    · exact fun x y hI hb => ⟨below_step hI.1 hb, below_step hI.2.1 hb, below_step hI.2.2 hb⟩
    · exact .v (.v (.nil))
    · refine .on rfl (fun a w hS hI hp => does_call (by kernel_rfl) rfl ((carillonlaw08_awake.calls k  t10 _  At10).mono fun _ _ h => ⟨_, h.1, h.2, rfl⟩)) ?_
      refine .asg 0 rfl rfl rfl rfl ?_
      exact .nil
    clear hS
    intro at11 w12 hS hI hp
    have hBw12_w := hI.1
    have hBw12_w3 := hI.2.1
    have hBw12_w8 := hI.2.2
    replace hS := hS.nil
    have hv10 : sl _ 10 = .bool t10 := hp 1 (by decide)
    have hBw12_w12 := Below.refl w12.heap.size w12
    have hS := hS.cons hv10
    clear hp hI hv10
    refine hK9 _ _ ?_
    (try clear hK9 K9)
    refine wp_ret ?_
    (try simp only [Exit.then, Exit.inBlock, Exit.jump, Exit.noGoto])
    exact bodyPost_ret (v := .bool true) (by rw [results_tmp rfl]; exact congrArg (Result.ok · _) ((hS.get 0 rfl).trans (congrArg Value.bool hret))) hS.nodef ⟨rfl, hBw12_w⟩
  rw [if_neg c3] at H
  obtain ⟨t10, At10, H⟩ := Option.bind_eq_some_iff.mp H
  obtain ⟨t11, At11, H⟩ := Option.bind_eq_some_iff.mp H
  obtain ⟨t11_1, t11_2, t11_3⟩ := t11
  (try dsimp only at H)
  obtain ⟨t19, At19, H⟩ := Option.bind_eq_some_iff.mp H
  obtain ⟨t19_1, t19_2, t19_3⟩ := t19
  (try dsimp only at H)
  obtain ⟨t27, At27, H⟩ := Option.bind_eq_some_iff.mp H
  obtain ⟨t27_1, t27_2, t27_3⟩ := t27
  (try dsimp only at H)
  obtain ⟨t35, At35, H⟩ := Option.bind_eq_some_iff.mp H
  obtain ⟨t35_1, t35_2, t35_3⟩ := t35
  (try dsimp only at H)
  obtain ⟨t43, At43, H⟩ := Option.bind_eq_some_iff.mp H
  obtain ⟨t43_1, t43_2, t43_3⟩ := t43
  (try dsimp only at H)
  obtain ⟨t51, At51, H⟩ := Option.bind_eq_some_iff.mp H
  obtain ⟨t51_1, t51_2, t51_3⟩ := t51
  (try dsimp only at H)
  by_cases c4 : ((t11_1 == t19_1) && (t11_2.toList == t19_2.toList)) = true
  rotate_left
  · rw [if_neg c4] at H
    exact absurd H (by simp)
  rw [if_pos c4] at H
  by_cases c5 : (t11_3 == t19_3) = true
  rotate_left
  · rw [if_neg c5] at H
    exact absurd H (by simp)
  rw [if_pos c5] at H
  by_cases c6 : ((t27_1 == t35_1) && (t27_2.toList == t35_2.toList)) = true
  rotate_left
  · rw [if_neg c6] at H
    exact absurd H (by simp)
  rw [if_pos c6] at H
  by_cases c7 : (t27_3 == t35_3) = true
  rotate_left
  · rw [if_neg c7] at H
    exact absurd H (by simp)
  rw [if_pos c7] at H
  by_cases c8 : ((t43_1 == t51_1) && (t43_2.toList == t51_2.toList)) = true
  rotate_left
  · rw [if_neg c8] at H
    exact absurd H (by simp)
  rw [if_pos c8] at H
  by_cases c9 : (t43_3 == t51_3) = true
  rotate_left
  · rw [if_neg c9] at H
    exact absurd H (by simp)
  rw [if_pos c9] at H
  obtain ⟨t63, At63, H⟩ := Option.bind_eq_some_iff.mp H
  obtain ⟨t63_1, t63_2⟩ := t63
  (try dsimp only at H)
  obtain ⟨t68, At68, H⟩ := Option.bind_eq_some_iff.mp H
  obtain ⟨t68_1, t68_2⟩ := t68
  (try dsimp only at H)
  obtain ⟨t73, At73, H⟩ := Option.bind_eq_some_iff.mp H
  obtain ⟨t73_1, t73_2, t73_3⟩ := t73
  (try dsimp only at H)
  obtain ⟨t77, At77, H⟩ := Option.bind_eq_some_iff.mp H
  obtain ⟨t77_1, t77_2, t77_3⟩ := t77
  (try dsimp only at H)
  obtain ⟨t81, At81, H⟩ := Option.bind_eq_some_iff.mp H
  obtain ⟨t81_1, t81_2, t81_3⟩ := t81
  (try dsimp only at H)
  obtain ⟨t85, At85, H⟩ := Option.bind_eq_some_iff.mp H
  obtain ⟨t85_1, t85_2, t85_3⟩ := t85
  (try dsimp only at H)
  obtain ⟨t89, At89, H⟩ := Option.bind_eq_some_iff.mp H
  by_cases c10 : t89 = true
  rotate_left
  · rw [if_neg c10] at H
    exact absurd H (by simp)
  rw [if_pos c10] at H
  by_cases c11 : (t63_2 == t68_2) = true
  rotate_left
  · rw [if_neg c11] at H
    exact absurd H (by simp)
  rw [if_pos c11] at H
  by_cases c12 : t73_1 = t77_1
  rotate_left
  · rw [if_neg c12] at H
    exact absurd H (by simp)
  rw [if_pos c12] at H
  by_cases c13 : (t73_2.toList == t77_2.toList) = true
  rotate_left
  · rw [if_neg c13] at H
    exact absurd H (by simp)
  rw [if_pos c13] at H
  by_cases c14 : (t73_3 == t77_3) = true
  rotate_left
  · rw [if_neg c14] at H
    exact absurd H (by simp)
  rw [if_pos c14] at H
  by_cases c15 : t81_1 = t85_1
  rotate_left
  · rw [if_neg c15] at H
    exact absurd H (by simp)
  rw [if_pos c15] at H
  by_cases c16 : t81_2 = t85_2
  rotate_left
  · rw [if_neg c16] at H
    exact absurd H (by simp)
  rw [if_pos c16] at H
  by_cases c17 : (t81_3 == t85_3) = true
  rotate_left
  · rw [if_neg c17] at H
    exact absurd H (by simp)
  rw [if_pos c17] at H
  obtain ⟨t90, At90, H⟩ := Option.bind_eq_some_iff.mp H
  have hret := Option.some.inj H
  clear H
  refine calls_of_wp (fn := Try.f8) (by kernel_rfl) rfl ?_
  have hS := St.enter #[.slice A0 l0.length cp0, .int .i64 a1, .string a2, .int .i64 a3, .agg #[.int .i64 a4_0, .string a4_1]] 192 (by simp) [(0, .slice A0 l0.length cp0), (1, .int .i64 a1), (2, .string a2), (3, .int .i64 a3), (4, .agg #[.int .i64 a4_0, .string a4_1])] (by simp)
  have HB0 := Below.refl w.heap.size w
  refine wp_seq_k (fun K1 hK1 => ?_)
  refine reg_seq (N := 192) (bs := [(0, .slice A0 l0.length cp0), (1, .int .i64 a1), (2, .string a2), (3, .int .i64 a3), (4, .agg #[.int .i64 a4_0, .string a4_1])]) (I := fun x => Below w.heap.size w x) (ps := [IsB #[.int .i64 a4_0, .string a4_1] 26 w.heap.size, VB false]) (by kernel_rfl) ?_ ?_ rfl hS HB0 ?_ ?_
  · exact fun x y hI hb => below_step hI hb
  · exact .cons (Stays.b _ _ _) (.v (.nil))
  · refine .on rfl (fun a w hS hI hp => does_var (x_box rfl (congrArg Value.cells (hS.get 4 rfl))) (hI).size) ?_
    refine .on rfl (fun a w hS hI hp => does_val (x_assign rfl (rfl)) rfl) ?_
    exact .nil
  clear hS
  intro at2 w3 hS hI hp
  have hBw3_w := hI
  replace hS := ((((hS.nil).cons (hS.get 3 rfl)).cons (hS.get 2 rfl)).cons (hS.get 1 rfl)).cons (hS.get 0 rfl)
  obtain ⟨g4, hv9, hgeg4, hbxg4⟩ := (show IsB _ 26 _ (sl _ 9) _ from hp 0 (by decide))
  have hBw3_w3 := Below.refl w3.heap.size w3
  have hS := hS.cons hv9
  clear hp hI hv9
  refine hK1 _ _ ?_
  (try clear hK1 K1)
  refine wp_seq_k (fun K5 hK5 => ?_)
  refine wp_seq_k (fun K6 hK6 => ?_)
  refine reg_seq (N := 192) (bs := [(9, .pointer (some ⟨g4, 0, none⟩)), (0, .slice A0 l0.length cp0), (1, .int .i64 a1), (2, .string a2), (3, .int .i64 a3)]) (I := fun x => Below w.heap.size w x ∧ Below w3.heap.size w3 x) (ps := [IsV (.slice A0 l0.length cp0), VI (l0.length : Int), VB (decide ((l0.length : Int) > 40)), VB (decide ((l0.length : Int) > 40)), IsV (.string a2), VI (a2.size : Int), VB (decide ((a2.size : Int) > 900)), VB (decide ((a2.size : Int) > 900)), VB (decide ((a2.size : Int) > 900)), VP g4 1, IsV (.string a4_1), VI (a4_1.size : Int), VB (decide ((a4_1.size : Int) > 900)), VB (decide ((a4_1.size : Int) > 900))]) (by kernel_rfl) ?_ ?_ rfl hS ⟨hBw3_w, hBw3_w3⟩ ?_ ?_
  · exact fun x y hI hb => ⟨below_step hI.1 hb, below_step hI.2 hb⟩
  · exact .v (.v (.v (.v (.v (.v (.v (.v (.v (.v (.v (.v (.v (.v (.nil))))))))))))))
  · refine .ms 1 rfl rfl rfl ?_
    refine .on rfl (fun a w hS hI hp => does_val (x_len (e := 58) rfl (by kernel_rfl) (hp.V 0 rfl rfl)) rfl) ?_
    refine .on rfl (fun a w hS hI hp => does_val (x_bin rfl (hp.V 1 rfl rfl) (rfl) (b_gtr _ _ _ _ _ _)) rfl) ?_
    refine .mv 2 rfl rfl rfl rfl ?_
    refine .oy 3 42 rfl rfl rfl rfl rfl ((decide_eq_false c1)) (fun a w hS hI hp => does_val (x_move rfl (hS.get 3 rfl)) rfl) ?_
    refine .oy 3 42 rfl rfl rfl rfl rfl ((decide_eq_false c1)) (fun a w hS hI hp => does_val (x_lenS rfl (by kernel_rfl) (hp.V 4 rfl rfl)) rfl) ?_
    refine .oy 3 42 rfl rfl rfl rfl rfl ((decide_eq_false c1)) (fun a w hS hI hp => does_val (x_bin rfl (hp.V 5 rfl rfl) (rfl) (b_gtr _ _ _ _ _ _)) rfl) ?_
    refine .on rfl (fun a w hS hI hp => does_val (x_pickF rfl ((hp.V 3 rfl rfl).trans (bF (decide_eq_false c1))) (hp.V 6 rfl rfl)) rfl) ?_
    refine .mv 7 rfl rfl rfl rfl ?_
    refine .oy 8 47 rfl rfl rfl rfl rfl ((decide_eq_false c2)) (fun a w hS hI hp => does_val (x_fieldE (b := 0) rfl (hS.get 0 rfl) Try.underlying26 rfl rfl (by kernel_rfl)) rfl) ?_
    refine .oy 8 47 rfl rfl rfl rfl rfl ((decide_eq_false c2)) (fun a w hS hI hp => does_val (x_load1 (d := .string) rfl (hp.V 9 rfl rfl) (by kernel_rfl) rfl ((blk_cell (((hI.2).block g4 (blk_lt hbxg4)).trans hbxg4) 1).trans rfl)) rfl) ?_
    refine .oy 8 47 rfl rfl rfl rfl rfl ((decide_eq_false c2)) (fun a w hS hI hp => does_val (x_lenS rfl (by kernel_rfl) (hp.V 10 rfl rfl)) rfl) ?_
    refine .oy 8 47 rfl rfl rfl rfl rfl ((decide_eq_false c2)) (fun a w hS hI hp => does_val (x_bin rfl (hp.V 11 rfl rfl) (rfl) (b_gtr _ _ _ _ _ _)) rfl) ?_
    refine .on rfl (fun a w hS hI hp => does_val (x_pickF rfl ((hp.V 8 rfl rfl).trans (bF (decide_eq_false c2))) (hp.V 12 rfl rfl)) rfl) ?_
    exact .nil
  clear hS
  intro at7 w8 hS hI hp
  have hBw8_w := hI.1
  have hBw8_w3 := hI.2
  have hv52 : sl _ 52 = .bool (decide ((a4_1.size : Int) > 900)) := hp 13 (by decide)
  have hBw8_w8 := Below.refl w8.heap.size w8
  have hS := hS.cons hv52
  clear hp hI hv52
  refine hK6 _ _ ?_
  (try clear hK6 K6)
  refine wp_cond_false ((hS.get 0 rfl).trans (bF (decide_eq_false c3))) ?_
  refine wp_skip ?_
  refine hK5 _ _ ?_
  (try clear hK5 K5)
  refine wp_seq_k (fun K9 hK9 => ?_)
  refine reg_seq_tail 7 (N := 192) (bs := [(52, .bool (decide ((a4_1.size : Int) > 900))), (9, .pointer (some ⟨g4, 0, none⟩)), (0, .slice A0 l0.length cp0), (1, .int .i64 a1), (2, .string a2), (3, .int .i64 a3)]) (I := fun x => Below w.heap.size w x ∧ Below w3.heap.size w3 x ∧ Below w8.heap.size w8 x) (ps := [IsV (.slice A0 l0.length cp0), IsR (Kd.int .u64) 58 w8.heap.size t10, IsV (.tuple #[.agg #[.int .i64 t11_1, .string t11_2], .bool t11_3]), IsV (.tuple #[.agg #[.int .i64 t11_1, .string t11_2], .bool t11_3]), IsV (.agg #[.int .i64 t11_1, .string t11_2]), VB t11_3, IsB #[.int .i64 0, .string (⟨#[]⟩ : ByteArray)] 26 w8.heap.size]) (by kernel_rfl) ?_ ?_ rfl hS ⟨hBw8_w, hBw8_w3, hBw8_w8⟩ ?_ ?_
  · exact fun x y hI hb => ⟨below_step hI.1 hb, below_step hI.2.1 hb, below_step hI.2.2 hb⟩
  · exact .v (.cons (Stays.r _ _ _ _) (.v (.v (.v (.v (.cons (Stays.b _ _ _) (.nil)))))))
  · refine .ms 2 rfl rfl rfl ?_
    refine .on rfl (fun a w hS hI hp => does_call (by kernel_rfl) (ar1 (hp.V 0 rfl rfl)) ((carillonlaw00_Ids.calls _ _ l0 t10 _ (Kd.C_below HR0 hI.1) HC0 At10).mono fun _ _ h => h.elim fun v0 h => ⟨v0, h.1, h.2.2, Kd.R_lower h.2.1 hI.2.2.size⟩)) ?_
    refine .on rfl (fun a w hS hI hp => (IsC.of_r (hp.V 1 rfl rfl)).elim fun A_ h_ => h_.elim fun c_ h_ => h_.elim fun hv_ h_ => h_.elim fun hl_ hc_ => does_call (by kernel_rfl) (ar1 (hv_)) ((tlv_Path.calls k _ _ t10 t11_1 t11_2 t11_3 _ hc_ hl_ At11).mono fun _ _ h => ⟨_, h.1, h.2, rfl⟩)) ?_
    refine .mv 2 rfl rfl rfl rfl ?_
    iterate 2 refine .on rfl (fun a w hS hI hp => does_val (x_extract rfl (hp.V 3 rfl rfl) rfl) rfl) ?_
    refine .on rfl (fun a w hS hI hp => does_var (x_alloc rfl (by kernel_rfl)) (hI.2.2).size) ?_
    exact .nil
  clear hS
  intro at12 w13 hS hI hp
  have hBw13_w := hI.1
  have hBw13_w3 := hI.2.1
  have hBw13_w8 := hI.2.2
  replace hS := (((((hS.nil).cons (hS.get 5 rfl)).cons (hS.get 4 rfl)).cons (hS.get 3 rfl)).cons (hS.get 2 rfl)).cons (hS.get 1 rfl)
  have hv58 : sl _ 58 = .agg #[.int .i64 t11_1, .string t11_2] := hp 4 (by decide)
  have hv59 : sl _ 59 = .bool t11_3 := hp 5 (by decide)
  obtain ⟨g14, hv11, hgeg14, hbxg14⟩ := (show IsB _ 26 _ (sl _ 11) _ from hp 6 (by decide))
  have hBw13_w13 := Below.refl w13.heap.size w13
  have hS := hS.cons hv58
  have hS := hS.cons hv59
  have hS := hS.cons hv11
  clear hp hI hv58 hv59 hv11
  show wpList _ _ _ [_, _] _ _
  refine list_step rfl (does_storeAll (g := g14) (cs := #[.int .i64 t11_1, .string t11_2]) rfl (hS.get 0 rfl) (hS.get 2 rfl) ((hBw13_w13.block g14 (blk_lt hbxg14)).trans hbxg14) (by kernel_rfl) (by kernel_rfl) (by kernel_rfl)) ?_
  rintro vw15 w15 ⟨rfl, hbxw15, hT⟩
  have hBw15_w := hT.below hBw13_w (Nat.le_trans (hBw8_w).size hgeg14) (hBw13_w).size
  have hBw15_w3 := hT.below hBw13_w3 (Nat.le_trans (hBw8_w3).size hgeg14) (hBw13_w3).size
  have hBw15_w8 := hT.below hBw13_w8 hgeg14 (hBw13_w8).size
  have hBw15_w15 := Below.refl w15.heap.size w15
  clear hT
  refine list_step rfl (R := fun v w' => Below _ _ w' ∧ (VB t11_3) v w') (does_val (x_assign rfl (hS.get 1 rfl)) rfl) ?_
  rintro vw16 w16 ⟨hb, he⟩
  have hBw16_w := below_step hBw15_w hb
  have hBw16_w3 := below_step hBw15_w3 hb
  have hBw16_w8 := below_step hBw15_w8 hb
  have hBw16_w15 := below_step hBw15_w15 hb
  have hBw16_w16 := Below.refl w16.heap.size w16
  obtain rfl : vw16 = .bool t11_3 := he
  refine hS.next (v := .bool t11_3) (d := 12) rfl (by decide) (by rfl) ?_
  clear hS
  intro at17 hS
  refine wpList_nil ?_
  refine hK9 _ _ ?_
  (try clear hK9 K9)
  refine wp_seq_k (fun K18 hK18 => ?_)
  refine reg_seq_tail 6 (N := 192) (bs := [(12, .bool t11_3), (11, .pointer (some ⟨g14, 0, none⟩)), (59, .bool t11_3), (58, .agg #[.int .i64 t11_1, .string t11_2]), (9, .pointer (some ⟨g4, 0, none⟩)), (0, .slice A0 l0.length cp0), (1, .int .i64 a1), (2, .string a2), (3, .int .i64 a3)]) (I := fun x => Below w.heap.size w x ∧ Below w3.heap.size w3 x ∧ Below w8.heap.size w8 x ∧ Below w15.heap.size w15 x ∧ Below w16.heap.size w16 x) (ps := [IsV (.slice A0 l0.length cp0), IsV (.tuple #[.agg #[.int .i64 t19_1, .string t19_2], .bool t19_3]), IsV (.tuple #[.agg #[.int .i64 t19_1, .string t19_2], .bool t19_3]), IsV (.agg #[.int .i64 t19_1, .string t19_2]), VB t19_3, IsB #[.int .i64 0, .string (⟨#[]⟩ : ByteArray)] 26 w16.heap.size]) (by kernel_rfl) ?_ ?_ rfl hS ⟨hBw16_w, hBw16_w3, hBw16_w8, hBw16_w15, hBw16_w16⟩ ?_ ?_
  · exact fun x y hI hb => ⟨below_step hI.1 hb, below_step hI.2.1 hb, below_step hI.2.2.1 hb, below_step hI.2.2.2.1 hb, below_step hI.2.2.2.2 hb⟩
  · exact .v (.v (.v (.v (.v (.cons (Stays.b _ _ _) (.nil))))))
  · refine .ms 5 rfl rfl rfl ?_
    refine .on rfl (fun a w hS hI hp => does_call (by kernel_rfl) (ar1 (hp.V 0 rfl rfl)) ((carillonref08_Path.calls k _ _ l0 t19_1 t19_2 t19_3 _ (Kd.C_below HR0 hI.1) HC0 At19).mono fun _ _ h => ⟨_, h.1, h.2, rfl⟩)) ?_
    refine .mv 1 rfl rfl rfl rfl ?_
    iterate 2 refine .on rfl (fun a w hS hI hp => does_val (x_extract rfl (hp.V 2 rfl rfl) rfl) rfl) ?_
    refine .on rfl (fun a w hS hI hp => does_var (x_alloc rfl (by kernel_rfl)) (hI.2.2.2.2).size) ?_
    exact .nil
  clear hS
  intro at20 w21 hS hI hp
  have hBw21_w := hI.1
  have hBw21_w3 := hI.2.1
  have hBw21_w8 := hI.2.2.1
  have hBw21_w15 := hI.2.2.2.1
  have hBw21_w16 := hI.2.2.2.2
  replace hS := ((((((hS.nil).cons (hS.get 8 rfl)).cons (hS.get 7 rfl)).cons (hS.get 6 rfl)).cons (hS.get 4 rfl)).cons (hS.get 1 rfl)).cons (hS.get 0 rfl)
  have hv63 : sl _ 63 = .agg #[.int .i64 t19_1, .string t19_2] := hp 3 (by decide)
  have hv64 : sl _ 64 = .bool t19_3 := hp 4 (by decide)
  obtain ⟨g22, hv13, hgeg22, hbxg22⟩ := (show IsB _ 26 _ (sl _ 13) _ from hp 5 (by decide))
  have hBw21_w21 := Below.refl w21.heap.size w21
  have hS := hS.cons hv63
  have hS := hS.cons hv64
  have hS := hS.cons hv13
  clear hp hI hv63 hv64 hv13
  show wpList _ _ _ [_, _] _ _
  refine list_step rfl (does_storeAll (g := g22) (cs := #[.int .i64 t19_1, .string t19_2]) rfl (hS.get 0 rfl) (hS.get 2 rfl) ((hBw21_w21.block g22 (blk_lt hbxg22)).trans hbxg22) (by kernel_rfl) (by kernel_rfl) (by kernel_rfl)) ?_
  rintro vw23 w23 ⟨rfl, hbxw23, hT⟩
  have hBw23_w := hT.below hBw21_w (Nat.le_trans (hBw16_w).size hgeg22) (hBw21_w).size
  have hBw23_w3 := hT.below hBw21_w3 (Nat.le_trans (hBw16_w3).size hgeg22) (hBw21_w3).size
  have hBw23_w8 := hT.below hBw21_w8 (Nat.le_trans (hBw16_w8).size hgeg22) (hBw21_w8).size
  have hBw23_w15 := hT.below hBw21_w15 (Nat.le_trans (hBw16_w15).size hgeg22) (hBw21_w15).size
  have hBw23_w16 := hT.below hBw21_w16 hgeg22 (hBw21_w16).size
  have hBw23_w23 := Below.refl w23.heap.size w23
  clear hT
  refine list_step rfl (R := fun v w' => Below _ _ w' ∧ (VB t19_3) v w') (does_val (x_assign rfl (hS.get 1 rfl)) rfl) ?_
  rintro vw24 w24 ⟨hb, he⟩
  have hBw24_w := below_step hBw23_w hb
  have hBw24_w3 := below_step hBw23_w3 hb
  have hBw24_w8 := below_step hBw23_w8 hb
  have hBw24_w15 := below_step hBw23_w15 hb
  have hBw24_w16 := below_step hBw23_w16 hb
  have hBw24_w23 := below_step hBw23_w23 hb
  have hBw24_w24 := Below.refl w24.heap.size w24
  obtain rfl : vw24 = .bool t19_3 := he
  refine hS.next (v := .bool t19_3) (d := 14) rfl (by decide) (by rfl) ?_
  clear hS
  intro at25 hS
  refine wpList_nil ?_
  refine hK18 _ _ ?_
  (try clear hK18 K18)
  refine wp_seq_k (fun K26 hK26 => ?_)
  refine reg_seq_tail 7 (N := 192) (bs := [(14, .bool t19_3), (13, .pointer (some ⟨g22, 0, none⟩)), (64, .bool t19_3), (63, .agg #[.int .i64 t19_1, .string t19_2]), (12, .bool t11_3), (11, .pointer (some ⟨g14, 0, none⟩)), (9, .pointer (some ⟨g4, 0, none⟩)), (1, .int .i64 a1), (2, .string a2), (3, .int .i64 a3)]) (I := fun x => Below w.heap.size w x ∧ Below w3.heap.size w3 x ∧ Below w8.heap.size w8 x ∧ Below w15.heap.size w15 x ∧ Below w16.heap.size w16 x ∧ Below w23.heap.size w23 x ∧ Below w24.heap.size w24 x) (ps := [VI a1, IsV (.string a2), IsV (.tuple #[.agg #[.int .i64 t27_1, .string t27_2], .bool t27_3]), IsV (.tuple #[.agg #[.int .i64 t27_1, .string t27_2], .bool t27_3]), IsV (.agg #[.int .i64 t27_1, .string t27_2]), VB t27_3, IsB #[.int .i64 0, .string (⟨#[]⟩ : ByteArray)] 26 w24.heap.size]) (by kernel_rfl) ?_ ?_ rfl hS ⟨hBw24_w, hBw24_w3, hBw24_w8, hBw24_w15, hBw24_w16, hBw24_w23, hBw24_w24⟩ ?_ ?_
  · exact fun x y hI hb => ⟨below_step hI.1 hb, below_step hI.2.1 hb, below_step hI.2.2.1 hb, below_step hI.2.2.2.1 hb, below_step hI.2.2.2.2.1 hb, below_step hI.2.2.2.2.2.1 hb, below_step hI.2.2.2.2.2.2 hb⟩
  · exact .v (.v (.v (.v (.v (.v (.cons (Stays.b _ _ _) (.nil)))))))
  · refine .ms 7 rfl rfl rfl ?_
    refine .ms 8 rfl rfl rfl ?_
    refine .on rfl (fun a w hS hI hp => does_call (by kernel_rfl) (ar2 (hp.V 0 rfl rfl) (hp.V 1 rfl rfl)) ((tlv_Manage.calls a1 a2 t27_1 t27_2 t27_3 _  At27).mono fun _ _ h => ⟨_, h.1, h.2, rfl⟩)) ?_
    refine .mv 2 rfl rfl rfl rfl ?_
    iterate 2 refine .on rfl (fun a w hS hI hp => does_val (x_extract rfl (hp.V 3 rfl rfl) rfl) rfl) ?_
    refine .on rfl (fun a w hS hI hp => does_var (x_alloc rfl (by kernel_rfl)) (hI.2.2.2.2.2.2).size) ?_
    exact .nil
  clear hS
  intro at28 w29 hS hI hp
  have hBw29_w := hI.1
  have hBw29_w3 := hI.2.1
  have hBw29_w8 := hI.2.2.1
  have hBw29_w15 := hI.2.2.2.1
  have hBw29_w16 := hI.2.2.2.2.1
  have hBw29_w23 := hI.2.2.2.2.2.1
  have hBw29_w24 := hI.2.2.2.2.2.2
  replace hS := ((((((((hS.nil).cons (hS.get 9 rfl)).cons (hS.get 8 rfl)).cons (hS.get 7 rfl)).cons (hS.get 6 rfl)).cons (hS.get 5 rfl)).cons (hS.get 4 rfl)).cons (hS.get 1 rfl)).cons (hS.get 0 rfl)
  have hv69 : sl _ 69 = .agg #[.int .i64 t27_1, .string t27_2] := hp 4 (by decide)
  have hv70 : sl _ 70 = .bool t27_3 := hp 5 (by decide)
  obtain ⟨g30, hv15, hgeg30, hbxg30⟩ := (show IsB _ 26 _ (sl _ 15) _ from hp 6 (by decide))
  have hBw29_w29 := Below.refl w29.heap.size w29
  have hS := hS.cons hv69
  have hS := hS.cons hv70
  have hS := hS.cons hv15
  clear hp hI hv69 hv70 hv15
  show wpList _ _ _ [_, _] _ _
  refine list_step rfl (does_storeAll (g := g30) (cs := #[.int .i64 t27_1, .string t27_2]) rfl (hS.get 0 rfl) (hS.get 2 rfl) ((hBw29_w29.block g30 (blk_lt hbxg30)).trans hbxg30) (by kernel_rfl) (by kernel_rfl) (by kernel_rfl)) ?_
  rintro vw31 w31 ⟨rfl, hbxw31, hT⟩
  have hBw31_w := hT.below hBw29_w (Nat.le_trans (hBw24_w).size hgeg30) (hBw29_w).size
  have hBw31_w3 := hT.below hBw29_w3 (Nat.le_trans (hBw24_w3).size hgeg30) (hBw29_w3).size
  have hBw31_w8 := hT.below hBw29_w8 (Nat.le_trans (hBw24_w8).size hgeg30) (hBw29_w8).size
  have hBw31_w15 := hT.below hBw29_w15 (Nat.le_trans (hBw24_w15).size hgeg30) (hBw29_w15).size
  have hBw31_w16 := hT.below hBw29_w16 (Nat.le_trans (hBw24_w16).size hgeg30) (hBw29_w16).size
  have hBw31_w23 := hT.below hBw29_w23 (Nat.le_trans (hBw24_w23).size hgeg30) (hBw29_w23).size
  have hBw31_w24 := hT.below hBw29_w24 hgeg30 (hBw29_w24).size
  have hBw31_w31 := Below.refl w31.heap.size w31
  clear hT
  refine list_step rfl (R := fun v w' => Below _ _ w' ∧ (VB t27_3) v w') (does_val (x_assign rfl (hS.get 1 rfl)) rfl) ?_
  rintro vw32 w32 ⟨hb, he⟩
  have hBw32_w := below_step hBw31_w hb
  have hBw32_w3 := below_step hBw31_w3 hb
  have hBw32_w8 := below_step hBw31_w8 hb
  have hBw32_w15 := below_step hBw31_w15 hb
  have hBw32_w16 := below_step hBw31_w16 hb
  have hBw32_w23 := below_step hBw31_w23 hb
  have hBw32_w24 := below_step hBw31_w24 hb
  have hBw32_w31 := below_step hBw31_w31 hb
  have hBw32_w32 := Below.refl w32.heap.size w32
  obtain rfl : vw32 = .bool t27_3 := he
  refine hS.next (v := .bool t27_3) (d := 16) rfl (by decide) (by rfl) ?_
  clear hS
  intro at33 hS
  refine wpList_nil ?_
  refine hK26 _ _ ?_
  (try clear hK26 K26)
  refine wp_seq_k (fun K34 hK34 => ?_)
  refine reg_seq_tail 7 (N := 192) (bs := [(16, .bool t27_3), (15, .pointer (some ⟨g30, 0, none⟩)), (70, .bool t27_3), (69, .agg #[.int .i64 t27_1, .string t27_2]), (14, .bool t19_3), (13, .pointer (some ⟨g22, 0, none⟩)), (12, .bool t11_3), (11, .pointer (some ⟨g14, 0, none⟩)), (9, .pointer (some ⟨g4, 0, none⟩)), (1, .int .i64 a1), (2, .string a2), (3, .int .i64 a3)]) (I := fun x => Below w.heap.size w x ∧ Below w3.heap.size w3 x ∧ Below w8.heap.size w8 x ∧ Below w15.heap.size w15 x ∧ Below w16.heap.size w16 x ∧ Below w23.heap.size w23 x ∧ Below w24.heap.size w24 x ∧ Below w31.heap.size w31 x ∧ Below w32.heap.size w32 x) (ps := [VI a1, IsV (.string a2), IsV (.tuple #[.agg #[.int .i64 t35_1, .string t35_2], .bool t35_3]), IsV (.tuple #[.agg #[.int .i64 t35_1, .string t35_2], .bool t35_3]), IsV (.agg #[.int .i64 t35_1, .string t35_2]), VB t35_3, IsB #[.int .i64 0, .string (⟨#[]⟩ : ByteArray)] 26 w32.heap.size]) (by kernel_rfl) ?_ ?_ rfl hS ⟨hBw32_w, hBw32_w3, hBw32_w8, hBw32_w15, hBw32_w16, hBw32_w23, hBw32_w24, hBw32_w31, hBw32_w32⟩ ?_ ?_
  · exact fun x y hI hb => ⟨below_step hI.1 hb, below_step hI.2.1 hb, below_step hI.2.2.1 hb, below_step hI.2.2.2.1 hb, below_step hI.2.2.2.2.1 hb, below_step hI.2.2.2.2.2.1 hb, below_step hI.2.2.2.2.2.2.1 hb, below_step hI.2.2.2.2.2.2.2.1 hb, below_step hI.2.2.2.2.2.2.2.2 hb⟩
  · exact .v (.v (.v (.v (.v (.v (.cons (Stays.b _ _ _) (.nil)))))))
  · refine .ms 9 rfl rfl rfl ?_
    refine .ms 10 rfl rfl rfl ?_
    refine .on rfl (fun a w hS hI hp => does_call (by kernel_rfl) (ar2 (hp.V 0 rfl rfl) (hp.V 1 rfl rfl)) ((carillonref08_Manage.calls k a1 a2 t35_1 t35_2 t35_3 _  At35).mono fun _ _ h => ⟨_, h.1, h.2, rfl⟩)) ?_
    refine .mv 2 rfl rfl rfl rfl ?_
    iterate 2 refine .on rfl (fun a w hS hI hp => does_val (x_extract rfl (hp.V 3 rfl rfl) rfl) rfl) ?_
    refine .on rfl (fun a w hS hI hp => does_var (x_alloc rfl (by kernel_rfl)) (hI.2.2.2.2.2.2.2.2).size) ?_
    exact .nil
  clear hS
  intro at36 w37 hS hI hp
  have hBw37_w := hI.1
  have hBw37_w3 := hI.2.1
  have hBw37_w8 := hI.2.2.1
  have hBw37_w15 := hI.2.2.2.1
  have hBw37_w16 := hI.2.2.2.2.1
  have hBw37_w23 := hI.2.2.2.2.2.1
  have hBw37_w24 := hI.2.2.2.2.2.2.1
  have hBw37_w31 := hI.2.2.2.2.2.2.2.1
  have hBw37_w32 := hI.2.2.2.2.2.2.2.2
  replace hS := (((((((((hS.nil).cons (hS.get 11 rfl)).cons (hS.get 9 rfl)).cons (hS.get 8 rfl)).cons (hS.get 7 rfl)).cons (hS.get 6 rfl)).cons (hS.get 5 rfl)).cons (hS.get 4 rfl)).cons (hS.get 1 rfl)).cons (hS.get 0 rfl)
  have hv75 : sl _ 75 = .agg #[.int .i64 t35_1, .string t35_2] := hp 4 (by decide)
  have hv76 : sl _ 76 = .bool t35_3 := hp 5 (by decide)
  obtain ⟨g38, hv17, hgeg38, hbxg38⟩ := (show IsB _ 26 _ (sl _ 17) _ from hp 6 (by decide))
  have hBw37_w37 := Below.refl w37.heap.size w37
  have hS := hS.cons hv75
  have hS := hS.cons hv76
  have hS := hS.cons hv17
  clear hp hI hv75 hv76 hv17
  show wpList _ _ _ [_, _] _ _
  refine list_step rfl (does_storeAll (g := g38) (cs := #[.int .i64 t35_1, .string t35_2]) rfl (hS.get 0 rfl) (hS.get 2 rfl) ((hBw37_w37.block g38 (blk_lt hbxg38)).trans hbxg38) (by kernel_rfl) (by kernel_rfl) (by kernel_rfl)) ?_
  rintro vw39 w39 ⟨rfl, hbxw39, hT⟩
  have hBw39_w := hT.below hBw37_w (Nat.le_trans (hBw32_w).size hgeg38) (hBw37_w).size
  have hBw39_w3 := hT.below hBw37_w3 (Nat.le_trans (hBw32_w3).size hgeg38) (hBw37_w3).size
  have hBw39_w8 := hT.below hBw37_w8 (Nat.le_trans (hBw32_w8).size hgeg38) (hBw37_w8).size
  have hBw39_w15 := hT.below hBw37_w15 (Nat.le_trans (hBw32_w15).size hgeg38) (hBw37_w15).size
  have hBw39_w16 := hT.below hBw37_w16 (Nat.le_trans (hBw32_w16).size hgeg38) (hBw37_w16).size
  have hBw39_w23 := hT.below hBw37_w23 (Nat.le_trans (hBw32_w23).size hgeg38) (hBw37_w23).size
  have hBw39_w24 := hT.below hBw37_w24 (Nat.le_trans (hBw32_w24).size hgeg38) (hBw37_w24).size
  have hBw39_w31 := hT.below hBw37_w31 (Nat.le_trans (hBw32_w31).size hgeg38) (hBw37_w31).size
  have hBw39_w32 := hT.below hBw37_w32 hgeg38 (hBw37_w32).size
  have hBw39_w39 := Below.refl w39.heap.size w39
  clear hT
  refine list_step rfl (R := fun v w' => Below _ _ w' ∧ (VB t35_3) v w') (does_val (x_assign rfl (hS.get 1 rfl)) rfl) ?_
  rintro vw40 w40 ⟨hb, he⟩
  have hBw40_w := below_step hBw39_w hb
  have hBw40_w3 := below_step hBw39_w3 hb
  have hBw40_w8 := below_step hBw39_w8 hb
  have hBw40_w15 := below_step hBw39_w15 hb
  have hBw40_w16 := below_step hBw39_w16 hb
  have hBw40_w23 := below_step hBw39_w23 hb
  have hBw40_w24 := below_step hBw39_w24 hb
  have hBw40_w31 := below_step hBw39_w31 hb
  have hBw40_w32 := below_step hBw39_w32 hb
  have hBw40_w39 := below_step hBw39_w39 hb
  have hBw40_w40 := Below.refl w40.heap.size w40
  obtain rfl : vw40 = .bool t35_3 := he
  refine hS.next (v := .bool t35_3) (d := 18) rfl (by decide) (by rfl) ?_
  clear hS
  intro at41 hS
  refine wpList_nil ?_
  refine hK34 _ _ ?_
  (try clear hK34 K34)
  refine wp_seq_k (fun K42 hK42 => ?_)
  refine reg_seq_tail 7 (N := 192) (bs := [(18, .bool t35_3), (17, .pointer (some ⟨g38, 0, none⟩)), (76, .bool t35_3), (75, .agg #[.int .i64 t35_1, .string t35_2]), (16, .bool t27_3), (15, .pointer (some ⟨g30, 0, none⟩)), (14, .bool t19_3), (13, .pointer (some ⟨g22, 0, none⟩)), (12, .bool t11_3), (11, .pointer (some ⟨g14, 0, none⟩)), (9, .pointer (some ⟨g4, 0, none⟩)), (1, .int .i64 a1), (3, .int .i64 a3)]) (I := fun x => Below w.heap.size w x ∧ Below w3.heap.size w3 x ∧ Below w8.heap.size w8 x ∧ Below w15.heap.size w15 x ∧ Below w16.heap.size w16 x ∧ Below w23.heap.size w23 x ∧ Below w24.heap.size w24 x ∧ Below w31.heap.size w31 x ∧ Below w32.heap.size w32 x ∧ Below w39.heap.size w39 x ∧ Below w40.heap.size w40 x) (ps := [VI a3, VI a1, IsV (.tuple #[.agg #[.int .i64 t43_1, .string t43_2], .bool t43_3]), IsV (.tuple #[.agg #[.int .i64 t43_1, .string t43_2], .bool t43_3]), IsV (.agg #[.int .i64 t43_1, .string t43_2]), VB t43_3, IsB #[.int .i64 0, .string (⟨#[]⟩ : ByteArray)] 26 w40.heap.size]) (by kernel_rfl) ?_ ?_ rfl hS ⟨hBw40_w, hBw40_w3, hBw40_w8, hBw40_w15, hBw40_w16, hBw40_w23, hBw40_w24, hBw40_w31, hBw40_w32, hBw40_w39, hBw40_w40⟩ ?_ ?_
  · exact fun x y hI hb => ⟨below_step hI.1 hb, below_step hI.2.1 hb, below_step hI.2.2.1 hb, below_step hI.2.2.2.1 hb, below_step hI.2.2.2.2.1 hb, below_step hI.2.2.2.2.2.1 hb, below_step hI.2.2.2.2.2.2.1 hb, below_step hI.2.2.2.2.2.2.2.1 hb, below_step hI.2.2.2.2.2.2.2.2.1 hb, below_step hI.2.2.2.2.2.2.2.2.2.1 hb, below_step hI.2.2.2.2.2.2.2.2.2.2 hb⟩
  · exact .v (.v (.v (.v (.v (.v (.cons (Stays.b _ _ _) (.nil)))))))
  · refine .ms 12 rfl rfl rfl ?_
    refine .ms 11 rfl rfl rfl ?_
    refine .on rfl (fun a w hS hI hp => does_call (by kernel_rfl) (ar2 (hp.V 0 rfl rfl) (hp.V 1 rfl rfl)) ((tlv_Fault.calls k a3 a1 t43_1 t43_2 t43_3 _  At43).mono fun _ _ h => ⟨_, h.1, h.2, rfl⟩)) ?_
    refine .mv 2 rfl rfl rfl rfl ?_
    iterate 2 refine .on rfl (fun a w hS hI hp => does_val (x_extract rfl (hp.V 3 rfl rfl) rfl) rfl) ?_
    refine .on rfl (fun a w hS hI hp => does_var (x_alloc rfl (by kernel_rfl)) (hI.2.2.2.2.2.2.2.2.2.2).size) ?_
    exact .nil
  clear hS
  intro at44 w45 hS hI hp
  have hBw45_w := hI.1
  have hBw45_w3 := hI.2.1
  have hBw45_w8 := hI.2.2.1
  have hBw45_w15 := hI.2.2.2.1
  have hBw45_w16 := hI.2.2.2.2.1
  have hBw45_w23 := hI.2.2.2.2.2.1
  have hBw45_w24 := hI.2.2.2.2.2.2.1
  have hBw45_w31 := hI.2.2.2.2.2.2.2.1
  have hBw45_w32 := hI.2.2.2.2.2.2.2.2.1
  have hBw45_w39 := hI.2.2.2.2.2.2.2.2.2.1
  have hBw45_w40 := hI.2.2.2.2.2.2.2.2.2.2
  replace hS := (((((((((((hS.nil).cons (hS.get 12 rfl)).cons (hS.get 11 rfl)).cons (hS.get 10 rfl)).cons (hS.get 9 rfl)).cons (hS.get 8 rfl)).cons (hS.get 7 rfl)).cons (hS.get 6 rfl)).cons (hS.get 5 rfl)).cons (hS.get 4 rfl)).cons (hS.get 1 rfl)).cons (hS.get 0 rfl)
  have hv81 : sl _ 81 = .agg #[.int .i64 t43_1, .string t43_2] := hp 4 (by decide)
  have hv82 : sl _ 82 = .bool t43_3 := hp 5 (by decide)
  obtain ⟨g46, hv19, hgeg46, hbxg46⟩ := (show IsB _ 26 _ (sl _ 19) _ from hp 6 (by decide))
  have hBw45_w45 := Below.refl w45.heap.size w45
  have hS := hS.cons hv81
  have hS := hS.cons hv82
  have hS := hS.cons hv19
  clear hp hI hv81 hv82 hv19
  show wpList _ _ _ [_, _] _ _
  refine list_step rfl (does_storeAll (g := g46) (cs := #[.int .i64 t43_1, .string t43_2]) rfl (hS.get 0 rfl) (hS.get 2 rfl) ((hBw45_w45.block g46 (blk_lt hbxg46)).trans hbxg46) (by kernel_rfl) (by kernel_rfl) (by kernel_rfl)) ?_
  rintro vw47 w47 ⟨rfl, hbxw47, hT⟩
  have hBw47_w := hT.below hBw45_w (Nat.le_trans (hBw40_w).size hgeg46) (hBw45_w).size
  have hBw47_w3 := hT.below hBw45_w3 (Nat.le_trans (hBw40_w3).size hgeg46) (hBw45_w3).size
  have hBw47_w8 := hT.below hBw45_w8 (Nat.le_trans (hBw40_w8).size hgeg46) (hBw45_w8).size
  have hBw47_w15 := hT.below hBw45_w15 (Nat.le_trans (hBw40_w15).size hgeg46) (hBw45_w15).size
  have hBw47_w16 := hT.below hBw45_w16 (Nat.le_trans (hBw40_w16).size hgeg46) (hBw45_w16).size
  have hBw47_w23 := hT.below hBw45_w23 (Nat.le_trans (hBw40_w23).size hgeg46) (hBw45_w23).size
  have hBw47_w24 := hT.below hBw45_w24 (Nat.le_trans (hBw40_w24).size hgeg46) (hBw45_w24).size
  have hBw47_w31 := hT.below hBw45_w31 (Nat.le_trans (hBw40_w31).size hgeg46) (hBw45_w31).size
  have hBw47_w32 := hT.below hBw45_w32 (Nat.le_trans (hBw40_w32).size hgeg46) (hBw45_w32).size
  have hBw47_w39 := hT.below hBw45_w39 (Nat.le_trans (hBw40_w39).size hgeg46) (hBw45_w39).size
  have hBw47_w40 := hT.below hBw45_w40 hgeg46 (hBw45_w40).size
  have hBw47_w47 := Below.refl w47.heap.size w47
  clear hT
  refine list_step rfl (R := fun v w' => Below _ _ w' ∧ (VB t43_3) v w') (does_val (x_assign rfl (hS.get 1 rfl)) rfl) ?_
  rintro vw48 w48 ⟨hb, he⟩
  have hBw48_w := below_step hBw47_w hb
  have hBw48_w3 := below_step hBw47_w3 hb
  have hBw48_w8 := below_step hBw47_w8 hb
  have hBw48_w15 := below_step hBw47_w15 hb
  have hBw48_w16 := below_step hBw47_w16 hb
  have hBw48_w23 := below_step hBw47_w23 hb
  have hBw48_w24 := below_step hBw47_w24 hb
  have hBw48_w31 := below_step hBw47_w31 hb
  have hBw48_w32 := below_step hBw47_w32 hb
  have hBw48_w39 := below_step hBw47_w39 hb
  have hBw48_w40 := below_step hBw47_w40 hb
  have hBw48_w47 := below_step hBw47_w47 hb
  have hBw48_w48 := Below.refl w48.heap.size w48
  obtain rfl : vw48 = .bool t43_3 := he
  refine hS.next (v := .bool t43_3) (d := 20) rfl (by decide) (by rfl) ?_
  clear hS
  intro at49 hS
  refine wpList_nil ?_
  refine hK42 _ _ ?_
  (try clear hK42 K42)
  refine wp_seq_k (fun K50 hK50 => ?_)
  refine reg_seq_tail 7 (N := 192) (bs := [(20, .bool t43_3), (19, .pointer (some ⟨g46, 0, none⟩)), (82, .bool t43_3), (81, .agg #[.int .i64 t43_1, .string t43_2]), (18, .bool t35_3), (17, .pointer (some ⟨g38, 0, none⟩)), (16, .bool t27_3), (15, .pointer (some ⟨g30, 0, none⟩)), (14, .bool t19_3), (13, .pointer (some ⟨g22, 0, none⟩)), (12, .bool t11_3), (11, .pointer (some ⟨g14, 0, none⟩)), (9, .pointer (some ⟨g4, 0, none⟩)), (1, .int .i64 a1), (3, .int .i64 a3)]) (I := fun x => Below w.heap.size w x ∧ Below w3.heap.size w3 x ∧ Below w8.heap.size w8 x ∧ Below w15.heap.size w15 x ∧ Below w16.heap.size w16 x ∧ Below w23.heap.size w23 x ∧ Below w24.heap.size w24 x ∧ Below w31.heap.size w31 x ∧ Below w32.heap.size w32 x ∧ Below w39.heap.size w39 x ∧ Below w40.heap.size w40 x ∧ Below w47.heap.size w47 x ∧ Below w48.heap.size w48 x) (ps := [VI a3, VI a1, IsV (.tuple #[.agg #[.int .i64 t51_1, .string t51_2], .bool t51_3]), IsV (.tuple #[.agg #[.int .i64 t51_1, .string t51_2], .bool t51_3]), IsV (.agg #[.int .i64 t51_1, .string t51_2]), VB t51_3, IsB #[.int .i64 0, .string (⟨#[]⟩ : ByteArray)] 26 w48.heap.size]) (by kernel_rfl) ?_ ?_ rfl hS ⟨hBw48_w, hBw48_w3, hBw48_w8, hBw48_w15, hBw48_w16, hBw48_w23, hBw48_w24, hBw48_w31, hBw48_w32, hBw48_w39, hBw48_w40, hBw48_w47, hBw48_w48⟩ ?_ ?_
  · exact fun x y hI hb => ⟨below_step hI.1 hb, below_step hI.2.1 hb, below_step hI.2.2.1 hb, below_step hI.2.2.2.1 hb, below_step hI.2.2.2.2.1 hb, below_step hI.2.2.2.2.2.1 hb, below_step hI.2.2.2.2.2.2.1 hb, below_step hI.2.2.2.2.2.2.2.1 hb, below_step hI.2.2.2.2.2.2.2.2.1 hb, below_step hI.2.2.2.2.2.2.2.2.2.1 hb, below_step hI.2.2.2.2.2.2.2.2.2.2.1 hb, below_step hI.2.2.2.2.2.2.2.2.2.2.2.1 hb, below_step hI.2.2.2.2.2.2.2.2.2.2.2.2 hb⟩
  · exact .v (.v (.v (.v (.v (.v (.cons (Stays.b _ _ _) (.nil)))))))
  · refine .ms 14 rfl rfl rfl ?_
    refine .ms 13 rfl rfl rfl ?_
    refine .on rfl (fun a w hS hI hp => does_call (by kernel_rfl) (ar2 (hp.V 0 rfl rfl) (hp.V 1 rfl rfl)) ((carillonref08_Fault.calls k a3 a1 t51_1 t51_2 t51_3 _  At51).mono fun _ _ h => ⟨_, h.1, h.2, rfl⟩)) ?_
    refine .mv 2 rfl rfl rfl rfl ?_
    iterate 2 refine .on rfl (fun a w hS hI hp => does_val (x_extract rfl (hp.V 3 rfl rfl) rfl) rfl) ?_
    refine .on rfl (fun a w hS hI hp => does_var (x_alloc rfl (by kernel_rfl)) (hI.2.2.2.2.2.2.2.2.2.2.2.2).size) ?_
    exact .nil
  clear hS
  intro at52 w53 hS hI hp
  have hBw53_w := hI.1
  have hBw53_w3 := hI.2.1
  have hBw53_w8 := hI.2.2.1
  have hBw53_w15 := hI.2.2.2.1
  have hBw53_w16 := hI.2.2.2.2.1
  have hBw53_w23 := hI.2.2.2.2.2.1
  have hBw53_w24 := hI.2.2.2.2.2.2.1
  have hBw53_w31 := hI.2.2.2.2.2.2.2.1
  have hBw53_w32 := hI.2.2.2.2.2.2.2.2.1
  have hBw53_w39 := hI.2.2.2.2.2.2.2.2.2.1
  have hBw53_w40 := hI.2.2.2.2.2.2.2.2.2.2.1
  have hBw53_w47 := hI.2.2.2.2.2.2.2.2.2.2.2.1
  have hBw53_w48 := hI.2.2.2.2.2.2.2.2.2.2.2.2
  replace hS := (((((((((((hS.nil).cons (hS.get 12 rfl)).cons (hS.get 11 rfl)).cons (hS.get 10 rfl)).cons (hS.get 9 rfl)).cons (hS.get 8 rfl)).cons (hS.get 7 rfl)).cons (hS.get 6 rfl)).cons (hS.get 5 rfl)).cons (hS.get 4 rfl)).cons (hS.get 1 rfl)).cons (hS.get 0 rfl)
  have hv87 : sl _ 87 = .agg #[.int .i64 t51_1, .string t51_2] := hp 4 (by decide)
  have hv88 : sl _ 88 = .bool t51_3 := hp 5 (by decide)
  obtain ⟨g54, hv21, hgeg54, hbxg54⟩ := (show IsB _ 26 _ (sl _ 21) _ from hp 6 (by decide))
  have hBw53_w53 := Below.refl w53.heap.size w53
  have hS := hS.cons hv87
  have hS := hS.cons hv88
  have hS := hS.cons hv21
  clear hp hI hv87 hv88 hv21
  show wpList _ _ _ [_, _] _ _
  refine list_step rfl (does_storeAll (g := g54) (cs := #[.int .i64 t51_1, .string t51_2]) rfl (hS.get 0 rfl) (hS.get 2 rfl) ((hBw53_w53.block g54 (blk_lt hbxg54)).trans hbxg54) (by kernel_rfl) (by kernel_rfl) (by kernel_rfl)) ?_
  rintro vw55 w55 ⟨rfl, hbxw55, hT⟩
  have hBw55_w := hT.below hBw53_w (Nat.le_trans (hBw48_w).size hgeg54) (hBw53_w).size
  have hBw55_w3 := hT.below hBw53_w3 (Nat.le_trans (hBw48_w3).size hgeg54) (hBw53_w3).size
  have hBw55_w8 := hT.below hBw53_w8 (Nat.le_trans (hBw48_w8).size hgeg54) (hBw53_w8).size
  have hBw55_w15 := hT.below hBw53_w15 (Nat.le_trans (hBw48_w15).size hgeg54) (hBw53_w15).size
  have hBw55_w16 := hT.below hBw53_w16 (Nat.le_trans (hBw48_w16).size hgeg54) (hBw53_w16).size
  have hBw55_w23 := hT.below hBw53_w23 (Nat.le_trans (hBw48_w23).size hgeg54) (hBw53_w23).size
  have hBw55_w24 := hT.below hBw53_w24 (Nat.le_trans (hBw48_w24).size hgeg54) (hBw53_w24).size
  have hBw55_w31 := hT.below hBw53_w31 (Nat.le_trans (hBw48_w31).size hgeg54) (hBw53_w31).size
  have hBw55_w32 := hT.below hBw53_w32 (Nat.le_trans (hBw48_w32).size hgeg54) (hBw53_w32).size
  have hBw55_w39 := hT.below hBw53_w39 (Nat.le_trans (hBw48_w39).size hgeg54) (hBw53_w39).size
  have hBw55_w40 := hT.below hBw53_w40 (Nat.le_trans (hBw48_w40).size hgeg54) (hBw53_w40).size
  have hBw55_w47 := hT.below hBw53_w47 (Nat.le_trans (hBw48_w47).size hgeg54) (hBw53_w47).size
  have hBw55_w48 := hT.below hBw53_w48 hgeg54 (hBw53_w48).size
  have hBw55_w55 := Below.refl w55.heap.size w55
  clear hT
  refine list_step rfl (R := fun v w' => Below _ _ w' ∧ (VB t51_3) v w') (does_val (x_assign rfl (hS.get 1 rfl)) rfl) ?_
  rintro vw56 w56 ⟨hb, he⟩
  have hBw56_w := below_step hBw55_w hb
  have hBw56_w3 := below_step hBw55_w3 hb
  have hBw56_w8 := below_step hBw55_w8 hb
  have hBw56_w15 := below_step hBw55_w15 hb
  have hBw56_w16 := below_step hBw55_w16 hb
  have hBw56_w23 := below_step hBw55_w23 hb
  have hBw56_w24 := below_step hBw55_w24 hb
  have hBw56_w31 := below_step hBw55_w31 hb
  have hBw56_w32 := below_step hBw55_w32 hb
  have hBw56_w39 := below_step hBw55_w39 hb
  have hBw56_w40 := below_step hBw55_w40 hb
  have hBw56_w47 := below_step hBw55_w47 hb
  have hBw56_w48 := below_step hBw55_w48 hb
  have hBw56_w55 := below_step hBw55_w55 hb
  have hBw56_w56 := Below.refl w56.heap.size w56
  obtain rfl : vw56 = .bool t51_3 := he
  refine hS.next (v := .bool t51_3) (d := 22) rfl (by decide) (by rfl) ?_
  clear hS
  intro at57 hS
  refine wpList_nil ?_
  refine hK50 _ _ ?_
  (try clear hK50 K50)
  refine wp_seq_k (fun K58 hK58 => ?_)
  refine wp_seq_k (fun K59 hK59 => ?_)
  refine reg_seq (N := 192) (bs := [(22, .bool t51_3), (21, .pointer (some ⟨g54, 0, none⟩)), (88, .bool t51_3), (87, .agg #[.int .i64 t51_1, .string t51_2]), (20, .bool t43_3), (19, .pointer (some ⟨g46, 0, none⟩)), (18, .bool t35_3), (17, .pointer (some ⟨g38, 0, none⟩)), (16, .bool t27_3), (15, .pointer (some ⟨g30, 0, none⟩)), (14, .bool t19_3), (13, .pointer (some ⟨g22, 0, none⟩)), (12, .bool t11_3), (11, .pointer (some ⟨g14, 0, none⟩)), (9, .pointer (some ⟨g4, 0, none⟩))]) (I := fun x => Below w.heap.size w x ∧ Below w3.heap.size w3 x ∧ Below w8.heap.size w8 x ∧ Below w15.heap.size w15 x ∧ Below w16.heap.size w16 x ∧ Below w23.heap.size w23 x ∧ Below w24.heap.size w24 x ∧ Below w31.heap.size w31 x ∧ Below w32.heap.size w32 x ∧ Below w39.heap.size w39 x ∧ Below w40.heap.size w40 x ∧ Below w47.heap.size w47 x ∧ Below w48.heap.size w48 x ∧ Below w55.heap.size w55 x ∧ Below w56.heap.size w56 x) (ps := [IsV (.agg #[.int .i64 t11_1, .string t11_2]), IsV (.agg #[.int .i64 t19_1, .string t19_2]), VB (!((t11_1 == t19_1) && (t11_2.toList == t19_2.toList))), VB (!((t11_1 == t19_1) && (t11_2.toList == t19_2.toList))), VB t11_3, VB t19_3, VB (!(t11_3 == t19_3)), VB (!(t11_3 == t19_3)), VB (!(t11_3 == t19_3)), IsV (.agg #[.int .i64 t27_1, .string t27_2]), IsV (.agg #[.int .i64 t35_1, .string t35_2]), VB (!((t27_1 == t35_1) && (t27_2.toList == t35_2.toList))), VB (!((t27_1 == t35_1) && (t27_2.toList == t35_2.toList))), VB (!((t27_1 == t35_1) && (t27_2.toList == t35_2.toList))), VB t27_3, VB t35_3, VB (!(t27_3 == t35_3)), VB (!(t27_3 == t35_3)), VB (!(t27_3 == t35_3)), IsV (.agg #[.int .i64 t43_1, .string t43_2]), IsV (.agg #[.int .i64 t51_1, .string t51_2]), VB (!((t43_1 == t51_1) && (t43_2.toList == t51_2.toList))), VB (!((t43_1 == t51_1) && (t43_2.toList == t51_2.toList))), VB (!((t43_1 == t51_1) && (t43_2.toList == t51_2.toList))), VB t43_3, VB t51_3, VB (!(t43_3 == t51_3)), VB (!(t43_3 == t51_3))]) (by kernel_rfl) ?_ ?_ rfl hS ⟨hBw56_w, hBw56_w3, hBw56_w8, hBw56_w15, hBw56_w16, hBw56_w23, hBw56_w24, hBw56_w31, hBw56_w32, hBw56_w39, hBw56_w40, hBw56_w47, hBw56_w48, hBw56_w55, hBw56_w56⟩ ?_ ?_
  · exact fun x y hI hb => ⟨below_step hI.1 hb, below_step hI.2.1 hb, below_step hI.2.2.1 hb, below_step hI.2.2.2.1 hb, below_step hI.2.2.2.2.1 hb, below_step hI.2.2.2.2.2.1 hb, below_step hI.2.2.2.2.2.2.1 hb, below_step hI.2.2.2.2.2.2.2.1 hb, below_step hI.2.2.2.2.2.2.2.2.1 hb, below_step hI.2.2.2.2.2.2.2.2.2.1 hb, below_step hI.2.2.2.2.2.2.2.2.2.2.1 hb, below_step hI.2.2.2.2.2.2.2.2.2.2.2.1 hb, below_step hI.2.2.2.2.2.2.2.2.2.2.2.2.1 hb, below_step hI.2.2.2.2.2.2.2.2.2.2.2.2.2.1 hb, below_step hI.2.2.2.2.2.2.2.2.2.2.2.2.2.2 hb⟩
  · exact .v (.v (.v (.v (.v (.v (.v (.v (.v (.v (.v (.v (.v (.v (.v (.v (.v (.v (.v (.v (.v (.v (.v (.v (.v (.v (.v (.v (.nil))))))))))))))))))))))))))))
  · refine .on rfl (fun a w hS hI hp => does_loadrow rfl (hS.get 13 rfl) (((hI.2.2.2.1).block g14 (blk_lt hbxw15)).trans hbxw15) Try.underlying26 rfl (by kernel_rfl) rfl) ?_
    refine .on rfl (fun a w hS hI hp => does_loadrow rfl (hS.get 11 rfl) (((hI.2.2.2.2.2.1).block g22 (blk_lt hbxw23)).trans hbxw23) Try.underlying26 rfl (by kernel_rfl) rfl) ?_
    refine .on rfl (fun a w hS hI hp => does_val (x_bin rfl (hp.V 0 rfl rfl) (hp.V 1 rfl rfl) (carillonlaw08_TlvKinds.neq26 _ _ _ t11_1 t11_2 t19_1 t19_2)) rfl) ?_
    refine .mv 2 rfl rfl rfl rfl ?_
    refine .oy 3 92 rfl rfl rfl rfl rfl ((congrArg (!·) c4)) (fun a w hS hI hp => does_val (x_move rfl (hS.get 12 rfl)) rfl) ?_
    refine .oy 3 92 rfl rfl rfl rfl rfl ((congrArg (!·) c4)) (fun a w hS hI hp => does_val (x_move rfl (hS.get 10 rfl)) rfl) ?_
    refine .oy 3 92 rfl rfl rfl rfl rfl ((congrArg (!·) c4)) (fun a w hS hI hp => does_val (x_bin rfl (hp.V 4 rfl rfl) (hp.V 5 rfl rfl) (b_neb _ _ _ _ _ (by kernel_rfl))) rfl) ?_
    refine .on rfl (fun a w hS hI hp => does_val (x_pickF rfl ((hp.V 3 rfl rfl).trans (bF (congrArg (!·) c4))) (hp.V 6 rfl rfl)) rfl) ?_
    refine .mv 7 rfl rfl rfl rfl ?_
    refine .oy 8 97 rfl rfl rfl rfl rfl ((congrArg (!·) c5)) (fun a w hS hI hp => does_loadrow rfl (hS.get 9 rfl) (((hI.2.2.2.2.2.2.2.1).block g30 (blk_lt hbxw31)).trans hbxw31) Try.underlying26 rfl (by kernel_rfl) rfl) ?_
    refine .oy 8 97 rfl rfl rfl rfl rfl ((congrArg (!·) c5)) (fun a w hS hI hp => does_loadrow rfl (hS.get 7 rfl) (((hI.2.2.2.2.2.2.2.2.2.1).block g38 (blk_lt hbxw39)).trans hbxw39) Try.underlying26 rfl (by kernel_rfl) rfl) ?_
    refine .oy 8 97 rfl rfl rfl rfl rfl ((congrArg (!·) c5)) (fun a w hS hI hp => does_val (x_bin rfl (hp.V 9 rfl rfl) (hp.V 10 rfl rfl) (carillonlaw08_TlvKinds.neq26 _ _ _ t27_1 t27_2 t35_1 t35_2)) rfl) ?_
    refine .on rfl (fun a w hS hI hp => does_val (x_pickF rfl ((hp.V 8 rfl rfl).trans (bF (congrArg (!·) c5))) (hp.V 11 rfl rfl)) rfl) ?_
    refine .mv 12 rfl rfl rfl rfl ?_
    refine .oy 13 102 rfl rfl rfl rfl rfl ((congrArg (!·) c6)) (fun a w hS hI hp => does_val (x_move rfl (hS.get 8 rfl)) rfl) ?_
    refine .oy 13 102 rfl rfl rfl rfl rfl ((congrArg (!·) c6)) (fun a w hS hI hp => does_val (x_move rfl (hS.get 6 rfl)) rfl) ?_
    refine .oy 13 102 rfl rfl rfl rfl rfl ((congrArg (!·) c6)) (fun a w hS hI hp => does_val (x_bin rfl (hp.V 14 rfl rfl) (hp.V 15 rfl rfl) (b_neb _ _ _ _ _ (by kernel_rfl))) rfl) ?_
    refine .on rfl (fun a w hS hI hp => does_val (x_pickF rfl ((hp.V 13 rfl rfl).trans (bF (congrArg (!·) c6))) (hp.V 16 rfl rfl)) rfl) ?_
    refine .mv 17 rfl rfl rfl rfl ?_
    refine .oy 18 107 rfl rfl rfl rfl rfl ((congrArg (!·) c7)) (fun a w hS hI hp => does_loadrow rfl (hS.get 5 rfl) (((hI.2.2.2.2.2.2.2.2.2.2.2.1).block g46 (blk_lt hbxw47)).trans hbxw47) Try.underlying26 rfl (by kernel_rfl) rfl) ?_
    refine .oy 18 107 rfl rfl rfl rfl rfl ((congrArg (!·) c7)) (fun a w hS hI hp => does_loadrow rfl (hS.get 1 rfl) (((hI.2.2.2.2.2.2.2.2.2.2.2.2.2.1).block g54 (blk_lt hbxw55)).trans hbxw55) Try.underlying26 rfl (by kernel_rfl) rfl) ?_
    refine .oy 18 107 rfl rfl rfl rfl rfl ((congrArg (!·) c7)) (fun a w hS hI hp => does_val (x_bin rfl (hp.V 19 rfl rfl) (hp.V 20 rfl rfl) (carillonlaw08_TlvKinds.neq26 _ _ _ t43_1 t43_2 t51_1 t51_2)) rfl) ?_
    refine .on rfl (fun a w hS hI hp => does_val (x_pickF rfl ((hp.V 18 rfl rfl).trans (bF (congrArg (!·) c7))) (hp.V 21 rfl rfl)) rfl) ?_
    refine .mv 22 rfl rfl rfl rfl ?_
    refine .oy 23 112 rfl rfl rfl rfl rfl ((congrArg (!·) c8)) (fun a w hS hI hp => does_val (x_move rfl (hS.get 4 rfl)) rfl) ?_
    refine .oy 23 112 rfl rfl rfl rfl rfl ((congrArg (!·) c8)) (fun a w hS hI hp => does_val (x_move rfl (hS.get 0 rfl)) rfl) ?_
    refine .oy 23 112 rfl rfl rfl rfl rfl ((congrArg (!·) c8)) (fun a w hS hI hp => does_val (x_bin rfl (hp.V 24 rfl rfl) (hp.V 25 rfl rfl) (b_neb _ _ _ _ _ (by kernel_rfl))) rfl) ?_
    refine .on rfl (fun a w hS hI hp => does_val (x_pickF rfl ((hp.V 23 rfl rfl).trans (bF (congrArg (!·) c8))) (hp.V 26 rfl rfl)) rfl) ?_
    exact .nil
  clear hS
  intro at60 w61 hS hI hp
  have hBw61_w := hI.1
  have hBw61_w3 := hI.2.1
  have hBw61_w8 := hI.2.2.1
  have hBw61_w15 := hI.2.2.2.1
  have hBw61_w16 := hI.2.2.2.2.1
  have hBw61_w23 := hI.2.2.2.2.2.1
  have hBw61_w24 := hI.2.2.2.2.2.2.1
  have hBw61_w31 := hI.2.2.2.2.2.2.2.1
  have hBw61_w32 := hI.2.2.2.2.2.2.2.2.1
  have hBw61_w39 := hI.2.2.2.2.2.2.2.2.2.1
  have hBw61_w40 := hI.2.2.2.2.2.2.2.2.2.2.1
  have hBw61_w47 := hI.2.2.2.2.2.2.2.2.2.2.2.1
  have hBw61_w48 := hI.2.2.2.2.2.2.2.2.2.2.2.2.1
  have hBw61_w55 := hI.2.2.2.2.2.2.2.2.2.2.2.2.2.1
  have hBw61_w56 := hI.2.2.2.2.2.2.2.2.2.2.2.2.2.2
  replace hS := (hS.nil).cons (hS.get 14 rfl)
  have hv116 : sl _ 116 = .bool (!(t43_3 == t51_3)) := hp 27 (by decide)
  have hBw61_w61 := Below.refl w61.heap.size w61
  have hS := hS.cons hv116
  clear hp hI hv116
  refine hK59 _ _ ?_
  (try clear hK59 K59)
  refine wp_cond_false ((hS.get 0 rfl).trans (bF (congrArg (!·) c9))) ?_
  refine wp_skip ?_
  refine hK58 _ _ ?_
  (try clear hK58 K58)
  refine wp_seq_k (fun K62 hK62 => ?_)
  refine reg_seq (N := 192) (bs := [(116, .bool (!(t43_3 == t51_3))), (9, .pointer (some ⟨g4, 0, none⟩))]) (I := fun x => Below w.heap.size w x ∧ Below w3.heap.size w3 x ∧ Below w8.heap.size w8 x ∧ Below w15.heap.size w15 x ∧ Below w16.heap.size w16 x ∧ Below w23.heap.size w23 x ∧ Below w24.heap.size w24 x ∧ Below w31.heap.size w31 x ∧ Below w32.heap.size w32 x ∧ Below w39.heap.size w39 x ∧ Below w40.heap.size w40 x ∧ Below w47.heap.size w47 x ∧ Below w48.heap.size w48 x ∧ Below w55.heap.size w55 x ∧ Below w61.heap.size w61 x) (ps := [IsV (.agg #[.int .i64 a4_0, .string a4_1]), IsT (fun v0_ => #[v0_, .bool t63_2]) (IsR (Kd.int .u64) 58 w61.heap.size t63_1), IsT (fun v0_ => #[v0_, .bool t63_2]) (IsR (Kd.int .u64) 58 w61.heap.size t63_1), IsR (Kd.int .u64) 58 w61.heap.size t63_1, VB t63_2, IsR (Kd.int .u64) 58 w61.heap.size t63_1, VB t63_2]) (by kernel_rfl) ?_ ?_ rfl hS ⟨hBw61_w, hBw61_w3, hBw61_w8, hBw61_w15, hBw61_w16, hBw61_w23, hBw61_w24, hBw61_w31, hBw61_w32, hBw61_w39, hBw61_w40, hBw61_w47, hBw61_w48, hBw61_w55, hBw61_w61⟩ ?_ ?_
  · exact fun x y hI hb => ⟨below_step hI.1 hb, below_step hI.2.1 hb, below_step hI.2.2.1 hb, below_step hI.2.2.2.1 hb, below_step hI.2.2.2.2.1 hb, below_step hI.2.2.2.2.2.1 hb, below_step hI.2.2.2.2.2.2.1 hb, below_step hI.2.2.2.2.2.2.2.1 hb, below_step hI.2.2.2.2.2.2.2.2.1 hb, below_step hI.2.2.2.2.2.2.2.2.2.1 hb, below_step hI.2.2.2.2.2.2.2.2.2.2.1 hb, below_step hI.2.2.2.2.2.2.2.2.2.2.2.1 hb, below_step hI.2.2.2.2.2.2.2.2.2.2.2.2.1 hb, below_step hI.2.2.2.2.2.2.2.2.2.2.2.2.2.1 hb, below_step hI.2.2.2.2.2.2.2.2.2.2.2.2.2.2 hb⟩
  · exact .v (.cons (Stays.t _ (Stays.r _ _ _ _)) (.cons (Stays.t _ (Stays.r _ _ _ _)) (.cons (Stays.r _ _ _ _) (.v (.cons (Stays.r _ _ _ _) (.v (.nil)))))))
  · refine .on rfl (fun a w hS hI hp => does_loadrow rfl (hS.get 1 rfl) (((hI.2.1).block g4 (blk_lt hbxg4)).trans hbxg4) Try.underlying26 rfl (by kernel_rfl) rfl) ?_
    refine .on rfl (fun a w hS hI hp => does_call (by kernel_rfl) (ar1 (hp.V 0 rfl rfl)) ((tlv_PathOf.calls k a4_0 a4_1 t63_1 t63_2 _  At63).mono fun _ _ h => h.elim fun v0 h => ⟨_, h.1, h.2.2, v0, rfl, Kd.R_lower h.2.1 hI.2.2.2.2.2.2.2.2.2.2.2.2.2.2.size⟩)) ?_
    refine .on rfl (fun a w hS hI hp => does_val (x_move rfl rfl) (hp.V 1 rfl rfl)) ?_
    refine .on rfl (fun a w hS hI hp => (hp.V 2 rfl rfl).elim fun v0 h0 => does_val (x_extract rfl h0.1 rfl) h0.2) ?_
    refine .on rfl (fun a w hS hI hp => (hp.V 2 rfl rfl).elim fun v0 h0 => does_val (x_extract rfl h0.1 rfl) rfl) ?_
    refine .on rfl (fun a w hS hI hp => does_val (x_assign rfl rfl) (hp.V 3 rfl rfl)) ?_
    refine .asg 4 rfl rfl rfl rfl ?_
    exact .nil
  clear hS
  intro at64 w65 hS hI hp
  have hBw65_w := hI.1
  have hBw65_w3 := hI.2.1
  have hBw65_w8 := hI.2.2.1
  have hBw65_w15 := hI.2.2.2.1
  have hBw65_w16 := hI.2.2.2.2.1
  have hBw65_w23 := hI.2.2.2.2.2.1
  have hBw65_w24 := hI.2.2.2.2.2.2.1
  have hBw65_w31 := hI.2.2.2.2.2.2.2.1
  have hBw65_w32 := hI.2.2.2.2.2.2.2.2.1
  have hBw65_w39 := hI.2.2.2.2.2.2.2.2.2.1
  have hBw65_w40 := hI.2.2.2.2.2.2.2.2.2.2.1
  have hBw65_w47 := hI.2.2.2.2.2.2.2.2.2.2.2.1
  have hBw65_w48 := hI.2.2.2.2.2.2.2.2.2.2.2.2.1
  have hBw65_w55 := hI.2.2.2.2.2.2.2.2.2.2.2.2.2.1
  have hBw65_w61 := hI.2.2.2.2.2.2.2.2.2.2.2.2.2.2
  replace hS := (hS.nil).cons (hS.get 1 rfl)
  obtain ⟨A66, C66, hv23, hl66, hc66⟩ := Kd.R_reads (show Kd.R (Kd.int .u64) 58 w65 w61.heap.size (fun _ => True) (sl _ 23) t63_1 from hp 5 (by decide))
  have ho66 : Kd.R (Kd.int .u64) 58 w65 w61.heap.size (fun _ => True) (.slice A66 t63_1.length C66) t63_1 := hv23 ▸ (hp 5 (by decide))
  have hv24 : sl _ 24 = .bool t63_2 := hp 6 (by decide)
  have hBw65_w65 := Below.refl w65.heap.size w65
  have hS := hS.cons hv23
  have hS := hS.cons hv24
  clear hp hI hv23 hv24
  refine hK62 _ _ ?_
  (try clear hK62 K62)
  refine wp_seq_k (fun K67 hK67 => ?_)
  refine reg_seq (N := 192) (bs := [(24, .bool t63_2), (23, .slice A66 t63_1.length C66), (9, .pointer (some ⟨g4, 0, none⟩))]) (I := fun x => Below w.heap.size w x ∧ Below w3.heap.size w3 x ∧ Below w8.heap.size w8 x ∧ Below w15.heap.size w15 x ∧ Below w16.heap.size w16 x ∧ Below w23.heap.size w23 x ∧ Below w24.heap.size w24 x ∧ Below w31.heap.size w31 x ∧ Below w32.heap.size w32 x ∧ Below w39.heap.size w39 x ∧ Below w40.heap.size w40 x ∧ Below w47.heap.size w47 x ∧ Below w48.heap.size w48 x ∧ Below w55.heap.size w55 x ∧ Below w61.heap.size w61 x ∧ Below w65.heap.size w65 x) (ps := [IsV (.agg #[.int .i64 a4_0, .string a4_1]), IsT (fun v0_ => #[v0_, .bool t68_2]) (IsR (Kd.int .u64) 58 w65.heap.size t68_1), IsT (fun v0_ => #[v0_, .bool t68_2]) (IsR (Kd.int .u64) 58 w65.heap.size t68_1), IsR (Kd.int .u64) 58 w65.heap.size t68_1, VB t68_2, IsR (Kd.int .u64) 58 w65.heap.size t68_1, VB t68_2]) (by kernel_rfl) ?_ ?_ rfl hS ⟨hBw65_w, hBw65_w3, hBw65_w8, hBw65_w15, hBw65_w16, hBw65_w23, hBw65_w24, hBw65_w31, hBw65_w32, hBw65_w39, hBw65_w40, hBw65_w47, hBw65_w48, hBw65_w55, hBw65_w61, hBw65_w65⟩ ?_ ?_
  · exact fun x y hI hb => ⟨below_step hI.1 hb, below_step hI.2.1 hb, below_step hI.2.2.1 hb, below_step hI.2.2.2.1 hb, below_step hI.2.2.2.2.1 hb, below_step hI.2.2.2.2.2.1 hb, below_step hI.2.2.2.2.2.2.1 hb, below_step hI.2.2.2.2.2.2.2.1 hb, below_step hI.2.2.2.2.2.2.2.2.1 hb, below_step hI.2.2.2.2.2.2.2.2.2.1 hb, below_step hI.2.2.2.2.2.2.2.2.2.2.1 hb, below_step hI.2.2.2.2.2.2.2.2.2.2.2.1 hb, below_step hI.2.2.2.2.2.2.2.2.2.2.2.2.1 hb, below_step hI.2.2.2.2.2.2.2.2.2.2.2.2.2.1 hb, below_step hI.2.2.2.2.2.2.2.2.2.2.2.2.2.2.1 hb, below_step hI.2.2.2.2.2.2.2.2.2.2.2.2.2.2.2 hb⟩
  · exact .v (.cons (Stays.t _ (Stays.r _ _ _ _)) (.cons (Stays.t _ (Stays.r _ _ _ _)) (.cons (Stays.r _ _ _ _) (.v (.cons (Stays.r _ _ _ _) (.v (.nil)))))))
  · refine .on rfl (fun a w hS hI hp => does_loadrow rfl (hS.get 2 rfl) (((hI.2.1).block g4 (blk_lt hbxg4)).trans hbxg4) Try.underlying26 rfl (by kernel_rfl) rfl) ?_
    refine .on rfl (fun a w hS hI hp => does_call (by kernel_rfl) (ar1 (hp.V 0 rfl rfl)) ((carillonref08_PathOf.calls k a4_0 a4_1 t68_1 t68_2 _  At68).mono fun _ _ h => h.elim fun v0 h => ⟨_, h.1, h.2.2, v0, rfl, Kd.R_lower h.2.1 hI.2.2.2.2.2.2.2.2.2.2.2.2.2.2.2.size⟩)) ?_
    refine .on rfl (fun a w hS hI hp => does_val (x_move rfl rfl) (hp.V 1 rfl rfl)) ?_
    refine .on rfl (fun a w hS hI hp => (hp.V 2 rfl rfl).elim fun v0 h0 => does_val (x_extract rfl h0.1 rfl) h0.2) ?_
    refine .on rfl (fun a w hS hI hp => (hp.V 2 rfl rfl).elim fun v0 h0 => does_val (x_extract rfl h0.1 rfl) rfl) ?_
    refine .on rfl (fun a w hS hI hp => does_val (x_assign rfl rfl) (hp.V 3 rfl rfl)) ?_
    refine .asg 4 rfl rfl rfl rfl ?_
    exact .nil
  clear hS
  intro at69 w70 hS hI hp
  have hBw70_w := hI.1
  have hBw70_w3 := hI.2.1
  have hBw70_w8 := hI.2.2.1
  have hBw70_w15 := hI.2.2.2.1
  have hBw70_w16 := hI.2.2.2.2.1
  have hBw70_w23 := hI.2.2.2.2.2.1
  have hBw70_w24 := hI.2.2.2.2.2.2.1
  have hBw70_w31 := hI.2.2.2.2.2.2.2.1
  have hBw70_w32 := hI.2.2.2.2.2.2.2.2.1
  have hBw70_w39 := hI.2.2.2.2.2.2.2.2.2.1
  have hBw70_w40 := hI.2.2.2.2.2.2.2.2.2.2.1
  have hBw70_w47 := hI.2.2.2.2.2.2.2.2.2.2.2.1
  have hBw70_w48 := hI.2.2.2.2.2.2.2.2.2.2.2.2.1
  have hBw70_w55 := hI.2.2.2.2.2.2.2.2.2.2.2.2.2.1
  have hBw70_w61 := hI.2.2.2.2.2.2.2.2.2.2.2.2.2.2.1
  have hBw70_w65 := hI.2.2.2.2.2.2.2.2.2.2.2.2.2.2.2
  obtain ⟨A71, C71, hv25, hl71, hc71⟩ := Kd.R_reads (show Kd.R (Kd.int .u64) 58 w70 w65.heap.size (fun _ => True) (sl _ 25) t68_1 from hp 5 (by decide))
  have ho71 : Kd.R (Kd.int .u64) 58 w70 w65.heap.size (fun _ => True) (.slice A71 t68_1.length C71) t68_1 := hv25 ▸ (hp 5 (by decide))
  have hv26 : sl _ 26 = .bool t68_2 := hp 6 (by decide)
  have hBw70_w70 := Below.refl w70.heap.size w70
  have hS := hS.cons hv25
  have hS := hS.cons hv26
  clear hp hI hv25 hv26
  refine hK67 _ _ ?_
  (try clear hK67 K67)
  refine wp_seq_k (fun K72 hK72 => ?_)
  refine reg_seq (N := 192) (bs := [(26, .bool t68_2), (25, .slice A71 t68_1.length C71), (24, .bool t63_2), (23, .slice A66 t63_1.length C66), (9, .pointer (some ⟨g4, 0, none⟩))]) (I := fun x => Below w.heap.size w x ∧ Below w3.heap.size w3 x ∧ Below w8.heap.size w8 x ∧ Below w15.heap.size w15 x ∧ Below w16.heap.size w16 x ∧ Below w23.heap.size w23 x ∧ Below w24.heap.size w24 x ∧ Below w31.heap.size w31 x ∧ Below w32.heap.size w32 x ∧ Below w39.heap.size w39 x ∧ Below w40.heap.size w40 x ∧ Below w47.heap.size w47 x ∧ Below w48.heap.size w48 x ∧ Below w55.heap.size w55 x ∧ Below w61.heap.size w61 x ∧ Below w65.heap.size w65 x ∧ Below w70.heap.size w70 x) (ps := [IsV (.agg #[.int .i64 a4_0, .string a4_1]), IsV (.tuple #[.int .i64 t73_1, .string t73_2, .bool t73_3]), IsV (.tuple #[.int .i64 t73_1, .string t73_2, .bool t73_3]), VI t73_1, IsV (.string t73_2), VB t73_3, VI t73_1, IsV (.string t73_2), VB t73_3]) (by kernel_rfl) ?_ ?_ rfl hS ⟨hBw70_w, hBw70_w3, hBw70_w8, hBw70_w15, hBw70_w16, hBw70_w23, hBw70_w24, hBw70_w31, hBw70_w32, hBw70_w39, hBw70_w40, hBw70_w47, hBw70_w48, hBw70_w55, hBw70_w61, hBw70_w65, hBw70_w70⟩ ?_ ?_
  · exact fun x y hI hb => ⟨below_step hI.1 hb, below_step hI.2.1 hb, below_step hI.2.2.1 hb, below_step hI.2.2.2.1 hb, below_step hI.2.2.2.2.1 hb, below_step hI.2.2.2.2.2.1 hb, below_step hI.2.2.2.2.2.2.1 hb, below_step hI.2.2.2.2.2.2.2.1 hb, below_step hI.2.2.2.2.2.2.2.2.1 hb, below_step hI.2.2.2.2.2.2.2.2.2.1 hb, below_step hI.2.2.2.2.2.2.2.2.2.2.1 hb, below_step hI.2.2.2.2.2.2.2.2.2.2.2.1 hb, below_step hI.2.2.2.2.2.2.2.2.2.2.2.2.1 hb, below_step hI.2.2.2.2.2.2.2.2.2.2.2.2.2.1 hb, below_step hI.2.2.2.2.2.2.2.2.2.2.2.2.2.2.1 hb, below_step hI.2.2.2.2.2.2.2.2.2.2.2.2.2.2.2.1 hb, below_step hI.2.2.2.2.2.2.2.2.2.2.2.2.2.2.2.2 hb⟩
  · exact .v (.v (.v (.v (.v (.v (.v (.v (.v (.nil)))))))))
  · refine .on rfl (fun a w hS hI hp => does_loadrow rfl (hS.get 4 rfl) (((hI.2.1).block g4 (blk_lt hbxg4)).trans hbxg4) Try.underlying26 rfl (by kernel_rfl) rfl) ?_
    refine .on rfl (fun a w hS hI hp => does_call (by kernel_rfl) (ar1 (hp.V 0 rfl rfl)) ((tlv_ManageOf.calls k a4_0 a4_1 t73_1 t73_2 t73_3 _  At73).mono fun _ _ h => ⟨_, h.1, h.2, rfl⟩)) ?_
    refine .mv 1 rfl rfl rfl rfl ?_
    iterate 3 refine .on rfl (fun a w hS hI hp => does_val (x_extract rfl (hp.V 2 rfl rfl) rfl) rfl) ?_
    refine .asg 3 rfl rfl rfl rfl ?_
    refine .asg 4 rfl rfl rfl rfl ?_
    refine .asg 5 rfl rfl rfl rfl ?_
    exact .nil
  clear hS
  intro at74 w75 hS hI hp
  have hBw75_w := hI.1
  have hBw75_w3 := hI.2.1
  have hBw75_w8 := hI.2.2.1
  have hBw75_w15 := hI.2.2.2.1
  have hBw75_w16 := hI.2.2.2.2.1
  have hBw75_w23 := hI.2.2.2.2.2.1
  have hBw75_w24 := hI.2.2.2.2.2.2.1
  have hBw75_w31 := hI.2.2.2.2.2.2.2.1
  have hBw75_w32 := hI.2.2.2.2.2.2.2.2.1
  have hBw75_w39 := hI.2.2.2.2.2.2.2.2.2.1
  have hBw75_w40 := hI.2.2.2.2.2.2.2.2.2.2.1
  have hBw75_w47 := hI.2.2.2.2.2.2.2.2.2.2.2.1
  have hBw75_w48 := hI.2.2.2.2.2.2.2.2.2.2.2.2.1
  have hBw75_w55 := hI.2.2.2.2.2.2.2.2.2.2.2.2.2.1
  have hBw75_w61 := hI.2.2.2.2.2.2.2.2.2.2.2.2.2.2.1
  have hBw75_w65 := hI.2.2.2.2.2.2.2.2.2.2.2.2.2.2.2.1
  have hBw75_w70 := hI.2.2.2.2.2.2.2.2.2.2.2.2.2.2.2.2
  have hv27 : sl _ 27 = .int .i64 t73_1 := hp 6 (by decide)
  have hv28 : sl _ 28 = .string t73_2 := hp 7 (by decide)
  have hv29 : sl _ 29 = .bool t73_3 := hp 8 (by decide)
  have hBw75_w75 := Below.refl w75.heap.size w75
  have hS := hS.cons hv27
  have hS := hS.cons hv28
  have hS := hS.cons hv29
  clear hp hI hv27 hv28 hv29
  refine hK72 _ _ ?_
  (try clear hK72 K72)
  refine wp_seq_k (fun K76 hK76 => ?_)
  refine reg_seq (N := 192) (bs := [(29, .bool t73_3), (28, .string t73_2), (27, .int .i64 t73_1), (26, .bool t68_2), (25, .slice A71 t68_1.length C71), (24, .bool t63_2), (23, .slice A66 t63_1.length C66), (9, .pointer (some ⟨g4, 0, none⟩))]) (I := fun x => Below w.heap.size w x ∧ Below w3.heap.size w3 x ∧ Below w8.heap.size w8 x ∧ Below w15.heap.size w15 x ∧ Below w16.heap.size w16 x ∧ Below w23.heap.size w23 x ∧ Below w24.heap.size w24 x ∧ Below w31.heap.size w31 x ∧ Below w32.heap.size w32 x ∧ Below w39.heap.size w39 x ∧ Below w40.heap.size w40 x ∧ Below w47.heap.size w47 x ∧ Below w48.heap.size w48 x ∧ Below w55.heap.size w55 x ∧ Below w61.heap.size w61 x ∧ Below w65.heap.size w65 x ∧ Below w70.heap.size w70 x ∧ Below w75.heap.size w75 x) (ps := [IsV (.agg #[.int .i64 a4_0, .string a4_1]), IsV (.tuple #[.int .i64 t77_1, .string t77_2, .bool t77_3]), IsV (.tuple #[.int .i64 t77_1, .string t77_2, .bool t77_3]), VI t77_1, IsV (.string t77_2), VB t77_3, VI t77_1, IsV (.string t77_2), VB t77_3]) (by kernel_rfl) ?_ ?_ rfl hS ⟨hBw75_w, hBw75_w3, hBw75_w8, hBw75_w15, hBw75_w16, hBw75_w23, hBw75_w24, hBw75_w31, hBw75_w32, hBw75_w39, hBw75_w40, hBw75_w47, hBw75_w48, hBw75_w55, hBw75_w61, hBw75_w65, hBw75_w70, hBw75_w75⟩ ?_ ?_
  · exact fun x y hI hb => ⟨below_step hI.1 hb, below_step hI.2.1 hb, below_step hI.2.2.1 hb, below_step hI.2.2.2.1 hb, below_step hI.2.2.2.2.1 hb, below_step hI.2.2.2.2.2.1 hb, below_step hI.2.2.2.2.2.2.1 hb, below_step hI.2.2.2.2.2.2.2.1 hb, below_step hI.2.2.2.2.2.2.2.2.1 hb, below_step hI.2.2.2.2.2.2.2.2.2.1 hb, below_step hI.2.2.2.2.2.2.2.2.2.2.1 hb, below_step hI.2.2.2.2.2.2.2.2.2.2.2.1 hb, below_step hI.2.2.2.2.2.2.2.2.2.2.2.2.1 hb, below_step hI.2.2.2.2.2.2.2.2.2.2.2.2.2.1 hb, below_step hI.2.2.2.2.2.2.2.2.2.2.2.2.2.2.1 hb, below_step hI.2.2.2.2.2.2.2.2.2.2.2.2.2.2.2.1 hb, below_step hI.2.2.2.2.2.2.2.2.2.2.2.2.2.2.2.2.1 hb, below_step hI.2.2.2.2.2.2.2.2.2.2.2.2.2.2.2.2.2 hb⟩
  · exact .v (.v (.v (.v (.v (.v (.v (.v (.v (.nil)))))))))
  · refine .on rfl (fun a w hS hI hp => does_loadrow rfl (hS.get 7 rfl) (((hI.2.1).block g4 (blk_lt hbxg4)).trans hbxg4) Try.underlying26 rfl (by kernel_rfl) rfl) ?_
    refine .on rfl (fun a w hS hI hp => does_call (by kernel_rfl) (ar1 (hp.V 0 rfl rfl)) ((carillonref08_ManageOf.calls k a4_0 a4_1 t77_1 t77_2 t77_3 _  At77).mono fun _ _ h => ⟨_, h.1, h.2, rfl⟩)) ?_
    refine .mv 1 rfl rfl rfl rfl ?_
    iterate 3 refine .on rfl (fun a w hS hI hp => does_val (x_extract rfl (hp.V 2 rfl rfl) rfl) rfl) ?_
    refine .asg 3 rfl rfl rfl rfl ?_
    refine .asg 4 rfl rfl rfl rfl ?_
    refine .asg 5 rfl rfl rfl rfl ?_
    exact .nil
  clear hS
  intro at78 w79 hS hI hp
  have hBw79_w := hI.1
  have hBw79_w3 := hI.2.1
  have hBw79_w8 := hI.2.2.1
  have hBw79_w15 := hI.2.2.2.1
  have hBw79_w16 := hI.2.2.2.2.1
  have hBw79_w23 := hI.2.2.2.2.2.1
  have hBw79_w24 := hI.2.2.2.2.2.2.1
  have hBw79_w31 := hI.2.2.2.2.2.2.2.1
  have hBw79_w32 := hI.2.2.2.2.2.2.2.2.1
  have hBw79_w39 := hI.2.2.2.2.2.2.2.2.2.1
  have hBw79_w40 := hI.2.2.2.2.2.2.2.2.2.2.1
  have hBw79_w47 := hI.2.2.2.2.2.2.2.2.2.2.2.1
  have hBw79_w48 := hI.2.2.2.2.2.2.2.2.2.2.2.2.1
  have hBw79_w55 := hI.2.2.2.2.2.2.2.2.2.2.2.2.2.1
  have hBw79_w61 := hI.2.2.2.2.2.2.2.2.2.2.2.2.2.2.1
  have hBw79_w65 := hI.2.2.2.2.2.2.2.2.2.2.2.2.2.2.2.1
  have hBw79_w70 := hI.2.2.2.2.2.2.2.2.2.2.2.2.2.2.2.2.1
  have hBw79_w75 := hI.2.2.2.2.2.2.2.2.2.2.2.2.2.2.2.2.2
  have hv30 : sl _ 30 = .int .i64 t77_1 := hp 6 (by decide)
  have hv31 : sl _ 31 = .string t77_2 := hp 7 (by decide)
  have hv32 : sl _ 32 = .bool t77_3 := hp 8 (by decide)
  have hBw79_w79 := Below.refl w79.heap.size w79
  have hS := hS.cons hv30
  have hS := hS.cons hv31
  have hS := hS.cons hv32
  clear hp hI hv30 hv31 hv32
  refine hK76 _ _ ?_
  (try clear hK76 K76)
  refine wp_seq_k (fun K80 hK80 => ?_)
  refine reg_seq (N := 192) (bs := [(32, .bool t77_3), (31, .string t77_2), (30, .int .i64 t77_1), (29, .bool t73_3), (28, .string t73_2), (27, .int .i64 t73_1), (26, .bool t68_2), (25, .slice A71 t68_1.length C71), (24, .bool t63_2), (23, .slice A66 t63_1.length C66), (9, .pointer (some ⟨g4, 0, none⟩))]) (I := fun x => Below w.heap.size w x ∧ Below w3.heap.size w3 x ∧ Below w8.heap.size w8 x ∧ Below w15.heap.size w15 x ∧ Below w16.heap.size w16 x ∧ Below w23.heap.size w23 x ∧ Below w24.heap.size w24 x ∧ Below w31.heap.size w31 x ∧ Below w32.heap.size w32 x ∧ Below w39.heap.size w39 x ∧ Below w40.heap.size w40 x ∧ Below w47.heap.size w47 x ∧ Below w48.heap.size w48 x ∧ Below w55.heap.size w55 x ∧ Below w61.heap.size w61 x ∧ Below w65.heap.size w65 x ∧ Below w70.heap.size w70 x ∧ Below w79.heap.size w79 x) (ps := [IsV (.agg #[.int .i64 a4_0, .string a4_1]), IsV (.tuple #[.int .i64 t81_1, .int .i64 t81_2, .bool t81_3]), IsV (.tuple #[.int .i64 t81_1, .int .i64 t81_2, .bool t81_3]), VI t81_1, VI t81_2, VB t81_3, VI t81_1, VI t81_2, VB t81_3]) (by kernel_rfl) ?_ ?_ rfl hS ⟨hBw79_w, hBw79_w3, hBw79_w8, hBw79_w15, hBw79_w16, hBw79_w23, hBw79_w24, hBw79_w31, hBw79_w32, hBw79_w39, hBw79_w40, hBw79_w47, hBw79_w48, hBw79_w55, hBw79_w61, hBw79_w65, hBw79_w70, hBw79_w79⟩ ?_ ?_
  · exact fun x y hI hb => ⟨below_step hI.1 hb, below_step hI.2.1 hb, below_step hI.2.2.1 hb, below_step hI.2.2.2.1 hb, below_step hI.2.2.2.2.1 hb, below_step hI.2.2.2.2.2.1 hb, below_step hI.2.2.2.2.2.2.1 hb, below_step hI.2.2.2.2.2.2.2.1 hb, below_step hI.2.2.2.2.2.2.2.2.1 hb, below_step hI.2.2.2.2.2.2.2.2.2.1 hb, below_step hI.2.2.2.2.2.2.2.2.2.2.1 hb, below_step hI.2.2.2.2.2.2.2.2.2.2.2.1 hb, below_step hI.2.2.2.2.2.2.2.2.2.2.2.2.1 hb, below_step hI.2.2.2.2.2.2.2.2.2.2.2.2.2.1 hb, below_step hI.2.2.2.2.2.2.2.2.2.2.2.2.2.2.1 hb, below_step hI.2.2.2.2.2.2.2.2.2.2.2.2.2.2.2.1 hb, below_step hI.2.2.2.2.2.2.2.2.2.2.2.2.2.2.2.2.1 hb, below_step hI.2.2.2.2.2.2.2.2.2.2.2.2.2.2.2.2.2 hb⟩
  · exact .v (.v (.v (.v (.v (.v (.v (.v (.v (.nil)))))))))
  · refine .on rfl (fun a w hS hI hp => does_loadrow rfl (hS.get 10 rfl) (((hI.2.1).block g4 (blk_lt hbxg4)).trans hbxg4) Try.underlying26 rfl (by kernel_rfl) rfl) ?_
    refine .on rfl (fun a w hS hI hp => does_call (by kernel_rfl) (ar1 (hp.V 0 rfl rfl)) ((tlv_FaultOf.calls k a4_0 a4_1 t81_1 t81_2 t81_3 _  At81).mono fun _ _ h => ⟨_, h.1, h.2, rfl⟩)) ?_
    refine .mv 1 rfl rfl rfl rfl ?_
    iterate 3 refine .on rfl (fun a w hS hI hp => does_val (x_extract rfl (hp.V 2 rfl rfl) rfl) rfl) ?_
    refine .asg 3 rfl rfl rfl rfl ?_
    refine .asg 4 rfl rfl rfl rfl ?_
    refine .asg 5 rfl rfl rfl rfl ?_
    exact .nil
  clear hS
  intro at82 w83 hS hI hp
  have hBw83_w := hI.1
  have hBw83_w3 := hI.2.1
  have hBw83_w8 := hI.2.2.1
  have hBw83_w15 := hI.2.2.2.1
  have hBw83_w16 := hI.2.2.2.2.1
  have hBw83_w23 := hI.2.2.2.2.2.1
  have hBw83_w24 := hI.2.2.2.2.2.2.1
  have hBw83_w31 := hI.2.2.2.2.2.2.2.1
  have hBw83_w32 := hI.2.2.2.2.2.2.2.2.1
  have hBw83_w39 := hI.2.2.2.2.2.2.2.2.2.1
  have hBw83_w40 := hI.2.2.2.2.2.2.2.2.2.2.1
  have hBw83_w47 := hI.2.2.2.2.2.2.2.2.2.2.2.1
  have hBw83_w48 := hI.2.2.2.2.2.2.2.2.2.2.2.2.1
  have hBw83_w55 := hI.2.2.2.2.2.2.2.2.2.2.2.2.2.1
  have hBw83_w61 := hI.2.2.2.2.2.2.2.2.2.2.2.2.2.2.1
  have hBw83_w65 := hI.2.2.2.2.2.2.2.2.2.2.2.2.2.2.2.1
  have hBw83_w70 := hI.2.2.2.2.2.2.2.2.2.2.2.2.2.2.2.2.1
  have hBw83_w79 := hI.2.2.2.2.2.2.2.2.2.2.2.2.2.2.2.2.2
  have hv33 : sl _ 33 = .int .i64 t81_1 := hp 6 (by decide)
  have hv34 : sl _ 34 = .int .i64 t81_2 := hp 7 (by decide)
  have hv35 : sl _ 35 = .bool t81_3 := hp 8 (by decide)
  have hBw83_w83 := Below.refl w83.heap.size w83
  have hS := hS.cons hv33
  have hS := hS.cons hv34
  have hS := hS.cons hv35
  clear hp hI hv33 hv34 hv35
  refine hK80 _ _ ?_
  (try clear hK80 K80)
  refine wp_seq_k (fun K84 hK84 => ?_)
  refine reg_seq (N := 192) (bs := [(35, .bool t81_3), (34, .int .i64 t81_2), (33, .int .i64 t81_1), (32, .bool t77_3), (31, .string t77_2), (30, .int .i64 t77_1), (29, .bool t73_3), (28, .string t73_2), (27, .int .i64 t73_1), (26, .bool t68_2), (25, .slice A71 t68_1.length C71), (24, .bool t63_2), (23, .slice A66 t63_1.length C66), (9, .pointer (some ⟨g4, 0, none⟩))]) (I := fun x => Below w.heap.size w x ∧ Below w3.heap.size w3 x ∧ Below w8.heap.size w8 x ∧ Below w15.heap.size w15 x ∧ Below w16.heap.size w16 x ∧ Below w23.heap.size w23 x ∧ Below w24.heap.size w24 x ∧ Below w31.heap.size w31 x ∧ Below w32.heap.size w32 x ∧ Below w39.heap.size w39 x ∧ Below w40.heap.size w40 x ∧ Below w47.heap.size w47 x ∧ Below w48.heap.size w48 x ∧ Below w55.heap.size w55 x ∧ Below w61.heap.size w61 x ∧ Below w65.heap.size w65 x ∧ Below w70.heap.size w70 x ∧ Below w83.heap.size w83 x) (ps := [IsV (.agg #[.int .i64 a4_0, .string a4_1]), IsV (.tuple #[.int .i64 t85_1, .int .i64 t85_2, .bool t85_3]), IsV (.tuple #[.int .i64 t85_1, .int .i64 t85_2, .bool t85_3]), VI t85_1, VI t85_2, VB t85_3, VI t85_1, VI t85_2, VB t85_3]) (by kernel_rfl) ?_ ?_ rfl hS ⟨hBw83_w, hBw83_w3, hBw83_w8, hBw83_w15, hBw83_w16, hBw83_w23, hBw83_w24, hBw83_w31, hBw83_w32, hBw83_w39, hBw83_w40, hBw83_w47, hBw83_w48, hBw83_w55, hBw83_w61, hBw83_w65, hBw83_w70, hBw83_w83⟩ ?_ ?_
  · exact fun x y hI hb => ⟨below_step hI.1 hb, below_step hI.2.1 hb, below_step hI.2.2.1 hb, below_step hI.2.2.2.1 hb, below_step hI.2.2.2.2.1 hb, below_step hI.2.2.2.2.2.1 hb, below_step hI.2.2.2.2.2.2.1 hb, below_step hI.2.2.2.2.2.2.2.1 hb, below_step hI.2.2.2.2.2.2.2.2.1 hb, below_step hI.2.2.2.2.2.2.2.2.2.1 hb, below_step hI.2.2.2.2.2.2.2.2.2.2.1 hb, below_step hI.2.2.2.2.2.2.2.2.2.2.2.1 hb, below_step hI.2.2.2.2.2.2.2.2.2.2.2.2.1 hb, below_step hI.2.2.2.2.2.2.2.2.2.2.2.2.2.1 hb, below_step hI.2.2.2.2.2.2.2.2.2.2.2.2.2.2.1 hb, below_step hI.2.2.2.2.2.2.2.2.2.2.2.2.2.2.2.1 hb, below_step hI.2.2.2.2.2.2.2.2.2.2.2.2.2.2.2.2.1 hb, below_step hI.2.2.2.2.2.2.2.2.2.2.2.2.2.2.2.2.2 hb⟩
  · exact .v (.v (.v (.v (.v (.v (.v (.v (.v (.nil)))))))))
  · refine .on rfl (fun a w hS hI hp => does_loadrow rfl (hS.get 13 rfl) (((hI.2.1).block g4 (blk_lt hbxg4)).trans hbxg4) Try.underlying26 rfl (by kernel_rfl) rfl) ?_
    refine .on rfl (fun a w hS hI hp => does_call (by kernel_rfl) (ar1 (hp.V 0 rfl rfl)) ((carillonref08_FaultOf.calls k a4_0 a4_1 t85_1 t85_2 t85_3 _  At85).mono fun _ _ h => ⟨_, h.1, h.2, rfl⟩)) ?_
    refine .mv 1 rfl rfl rfl rfl ?_
    iterate 3 refine .on rfl (fun a w hS hI hp => does_val (x_extract rfl (hp.V 2 rfl rfl) rfl) rfl) ?_
    refine .asg 3 rfl rfl rfl rfl ?_
    refine .asg 4 rfl rfl rfl rfl ?_
    refine .asg 5 rfl rfl rfl rfl ?_
    exact .nil
  clear hS
  intro at86 w87 hS hI hp
  have hBw87_w := hI.1
  have hBw87_w3 := hI.2.1
  have hBw87_w8 := hI.2.2.1
  have hBw87_w15 := hI.2.2.2.1
  have hBw87_w16 := hI.2.2.2.2.1
  have hBw87_w23 := hI.2.2.2.2.2.1
  have hBw87_w24 := hI.2.2.2.2.2.2.1
  have hBw87_w31 := hI.2.2.2.2.2.2.2.1
  have hBw87_w32 := hI.2.2.2.2.2.2.2.2.1
  have hBw87_w39 := hI.2.2.2.2.2.2.2.2.2.1
  have hBw87_w40 := hI.2.2.2.2.2.2.2.2.2.2.1
  have hBw87_w47 := hI.2.2.2.2.2.2.2.2.2.2.2.1
  have hBw87_w48 := hI.2.2.2.2.2.2.2.2.2.2.2.2.1
  have hBw87_w55 := hI.2.2.2.2.2.2.2.2.2.2.2.2.2.1
  have hBw87_w61 := hI.2.2.2.2.2.2.2.2.2.2.2.2.2.2.1
  have hBw87_w65 := hI.2.2.2.2.2.2.2.2.2.2.2.2.2.2.2.1
  have hBw87_w70 := hI.2.2.2.2.2.2.2.2.2.2.2.2.2.2.2.2.1
  have hBw87_w83 := hI.2.2.2.2.2.2.2.2.2.2.2.2.2.2.2.2.2
  replace hS := (((((((((((((hS.nil).cons (hS.get 12 rfl)).cons (hS.get 11 rfl)).cons (hS.get 10 rfl)).cons (hS.get 9 rfl)).cons (hS.get 8 rfl)).cons (hS.get 7 rfl)).cons (hS.get 6 rfl)).cons (hS.get 5 rfl)).cons (hS.get 4 rfl)).cons (hS.get 3 rfl)).cons (hS.get 2 rfl)).cons (hS.get 1 rfl)).cons (hS.get 0 rfl)
  have hv36 : sl _ 36 = .int .i64 t85_1 := hp 6 (by decide)
  have hv37 : sl _ 37 = .int .i64 t85_2 := hp 7 (by decide)
  have hv38 : sl _ 38 = .bool t85_3 := hp 8 (by decide)
  have hBw87_w87 := Below.refl w87.heap.size w87
  have hS := hS.cons hv36
  have hS := hS.cons hv37
  have hS := hS.cons hv38
  clear hp hI hv36 hv37 hv38
  refine hK84 _ _ ?_
  (try clear hK84 K84)
  refine wp_seq_k (fun K88 hK88 => ?_)
  refine reg_seq (N := 192) (bs := [(38, .bool t85_3), (37, .int .i64 t85_2), (36, .int .i64 t85_1), (35, .bool t81_3), (34, .int .i64 t81_2), (33, .int .i64 t81_1), (32, .bool t77_3), (31, .string t77_2), (30, .int .i64 t77_1), (29, .bool t73_3), (28, .string t73_2), (27, .int .i64 t73_1), (26, .bool t68_2), (25, .slice A71 t68_1.length C71), (24, .bool t63_2), (23, .slice A66 t63_1.length C66)]) (I := fun x => Below w.heap.size w x ∧ Below w3.heap.size w3 x ∧ Below w8.heap.size w8 x ∧ Below w15.heap.size w15 x ∧ Below w16.heap.size w16 x ∧ Below w23.heap.size w23 x ∧ Below w24.heap.size w24 x ∧ Below w31.heap.size w31 x ∧ Below w32.heap.size w32 x ∧ Below w39.heap.size w39 x ∧ Below w40.heap.size w40 x ∧ Below w47.heap.size w47 x ∧ Below w48.heap.size w48 x ∧ Below w55.heap.size w55 x ∧ Below w61.heap.size w61 x ∧ Below w65.heap.size w65 x ∧ Below w70.heap.size w70 x ∧ Below w87.heap.size w87 x) (ps := [IsV (.slice A66 t63_1.length C66), IsV (.slice A71 t68_1.length C71), VB t89, VB t89, VB t63_2, VB t68_2, VB (t63_2 == t68_2), VB (t63_2 == t68_2), VB (t63_2 == t68_2), VI t73_1, VI t77_1, VB (decide (t73_1 = t77_1)), VB (decide (t73_1 = t77_1)), VB (decide (t73_1 = t77_1)), IsV (.string t73_2), IsV (.string t77_2), VB (t73_2.toList == t77_2.toList), VB (t73_2.toList == t77_2.toList), VB (t73_2.toList == t77_2.toList), VB t73_3, VB t77_3, VB (t73_3 == t77_3), VB (t73_3 == t77_3), VB (t73_3 == t77_3), VI t81_1, VI t85_1, VB (decide (t81_1 = t85_1)), VB (decide (t81_1 = t85_1)), VB (decide (t81_1 = t85_1)), VI t81_2, VI t85_2, VB (decide (t81_2 = t85_2)), VB (decide (t81_2 = t85_2)), VB (decide (t81_2 = t85_2)), VB t81_3, VB t85_3, VB (t81_3 == t85_3), VB (t81_3 == t85_3), VB (t81_3 == t85_3), VB t90, VB t90, VB t90]) (by kernel_rfl) ?_ ?_ rfl hS ⟨hBw87_w, hBw87_w3, hBw87_w8, hBw87_w15, hBw87_w16, hBw87_w23, hBw87_w24, hBw87_w31, hBw87_w32, hBw87_w39, hBw87_w40, hBw87_w47, hBw87_w48, hBw87_w55, hBw87_w61, hBw87_w65, hBw87_w70, hBw87_w87⟩ ?_ ?_
  · exact fun x y hI hb => ⟨below_step hI.1 hb, below_step hI.2.1 hb, below_step hI.2.2.1 hb, below_step hI.2.2.2.1 hb, below_step hI.2.2.2.2.1 hb, below_step hI.2.2.2.2.2.1 hb, below_step hI.2.2.2.2.2.2.1 hb, below_step hI.2.2.2.2.2.2.2.1 hb, below_step hI.2.2.2.2.2.2.2.2.1 hb, below_step hI.2.2.2.2.2.2.2.2.2.1 hb, below_step hI.2.2.2.2.2.2.2.2.2.2.1 hb, below_step hI.2.2.2.2.2.2.2.2.2.2.2.1 hb, below_step hI.2.2.2.2.2.2.2.2.2.2.2.2.1 hb, below_step hI.2.2.2.2.2.2.2.2.2.2.2.2.2.1 hb, below_step hI.2.2.2.2.2.2.2.2.2.2.2.2.2.2.1 hb, below_step hI.2.2.2.2.2.2.2.2.2.2.2.2.2.2.2.1 hb, below_step hI.2.2.2.2.2.2.2.2.2.2.2.2.2.2.2.2.1 hb, below_step hI.2.2.2.2.2.2.2.2.2.2.2.2.2.2.2.2.2 hb⟩
  · exact .v (.v (.v (.v (.v (.v (.v (.v (.v (.v (.v (.v (.v (.v (.v (.v (.v (.v (.v (.v (.v (.v (.v (.v (.v (.v (.v (.v (.v (.v (.v (.v (.v (.v (.v (.v (.v (.v (.v (.v (.v (.v (.nil))))))))))))))))))))))))))))))))))))))))))
  · refine .ms 15 rfl rfl rfl ?_
    refine .ms 13 rfl rfl rfl ?_
    refine .on rfl (fun a w hS hI hp => does_call (by kernel_rfl) (ar2 (hp.V 0 rfl rfl) (hp.V 1 rfl rfl)) ((carillonlaw00_SameIds.calls k _ _ t63_1 _ _ t68_1 t89 _ (Kd.C_below hc66 hI.2.2.2.2.2.2.2.2.2.2.2.2.2.2.2.1) hl66 (Kd.C_below hc71 hI.2.2.2.2.2.2.2.2.2.2.2.2.2.2.2.2.1) hl71 At89).mono fun _ _ h => ⟨_, h.1, h.2.below, rfl⟩)) ?_
    refine .mv 2 rfl rfl rfl rfl ?_
    refine .oy 3 154 rfl rfl rfl rfl rfl c10 (fun a w hS hI hp => does_val (x_move rfl (hS.get 14 rfl)) rfl) ?_
    refine .oy 3 154 rfl rfl rfl rfl rfl c10 (fun a w hS hI hp => does_val (x_move rfl (hS.get 12 rfl)) rfl) ?_
    refine .oy 3 154 rfl rfl rfl rfl rfl c10 (fun a w hS hI hp => does_val (x_bin rfl (hp.V 4 rfl rfl) (hp.V 5 rfl rfl) (b_eqb _ _ _ _ _ (by kernel_rfl))) rfl) ?_
    refine .pt 3 6 rfl rfl rfl rfl c10 rfl rfl ?_
    refine .mv 7 rfl rfl rfl rfl ?_
    refine .oy 8 159 rfl rfl rfl rfl rfl c11 (fun a w hS hI hp => does_val (x_move rfl (hS.get 11 rfl)) rfl) ?_
    refine .oy 8 159 rfl rfl rfl rfl rfl c11 (fun a w hS hI hp => does_val (x_move rfl (hS.get 8 rfl)) rfl) ?_
    refine .oy 8 159 rfl rfl rfl rfl rfl c11 (fun a w hS hI hp => does_val (x_bin rfl (hp.V 9 rfl rfl) (hp.V 10 rfl rfl) (b_eql _ _ _ _ _ _)) rfl) ?_
    refine .pt 8 11 rfl rfl rfl rfl c11 rfl rfl ?_
    refine .mv 12 rfl rfl rfl rfl ?_
    refine .oy 13 164 rfl rfl rfl rfl rfl ((decide_eq_true c12)) (fun a w hS hI hp => does_val (x_move rfl (hS.get 10 rfl)) rfl) ?_
    refine .oy 13 164 rfl rfl rfl rfl rfl ((decide_eq_true c12)) (fun a w hS hI hp => does_val (x_move rfl (hS.get 7 rfl)) rfl) ?_
    refine .oy 13 164 rfl rfl rfl rfl rfl ((decide_eq_true c12)) (fun a w hS hI hp => does_val (x_bin rfl (hp.V 14 rfl rfl) (hp.V 15 rfl rfl) (b_eqs _ _ _ _ _)) rfl) ?_
    refine .pt 13 16 rfl rfl rfl rfl ((decide_eq_true c12)) rfl rfl ?_
    refine .mv 17 rfl rfl rfl rfl ?_
    refine .oy 18 169 rfl rfl rfl rfl rfl c13 (fun a w hS hI hp => does_val (x_move rfl (hS.get 9 rfl)) rfl) ?_
    refine .oy 18 169 rfl rfl rfl rfl rfl c13 (fun a w hS hI hp => does_val (x_move rfl (hS.get 6 rfl)) rfl) ?_
    refine .oy 18 169 rfl rfl rfl rfl rfl c13 (fun a w hS hI hp => does_val (x_bin rfl (hp.V 19 rfl rfl) (hp.V 20 rfl rfl) (b_eqb _ _ _ _ _ (by kernel_rfl))) rfl) ?_
    refine .pt 18 21 rfl rfl rfl rfl c13 rfl rfl ?_
    refine .mv 22 rfl rfl rfl rfl ?_
    refine .oy 23 174 rfl rfl rfl rfl rfl c14 (fun a w hS hI hp => does_val (x_move rfl (hS.get 5 rfl)) rfl) ?_
    refine .oy 23 174 rfl rfl rfl rfl rfl c14 (fun a w hS hI hp => does_val (x_move rfl (hS.get 2 rfl)) rfl) ?_
    refine .oy 23 174 rfl rfl rfl rfl rfl c14 (fun a w hS hI hp => does_val (x_bin rfl (hp.V 24 rfl rfl) (hp.V 25 rfl rfl) (b_eql _ _ _ _ _ _)) rfl) ?_
    refine .pt 23 26 rfl rfl rfl rfl c14 rfl rfl ?_
    refine .mv 27 rfl rfl rfl rfl ?_
    refine .oy 28 179 rfl rfl rfl rfl rfl ((decide_eq_true c15)) (fun a w hS hI hp => does_val (x_move rfl (hS.get 4 rfl)) rfl) ?_
    refine .oy 28 179 rfl rfl rfl rfl rfl ((decide_eq_true c15)) (fun a w hS hI hp => does_val (x_move rfl (hS.get 1 rfl)) rfl) ?_
    refine .oy 28 179 rfl rfl rfl rfl rfl ((decide_eq_true c15)) (fun a w hS hI hp => does_val (x_bin rfl (hp.V 29 rfl rfl) (hp.V 30 rfl rfl) (b_eql _ _ _ _ _ _)) rfl) ?_
    refine .pt 28 31 rfl rfl rfl rfl ((decide_eq_true c15)) rfl rfl ?_
    refine .mv 32 rfl rfl rfl rfl ?_
    refine .oy 33 184 rfl rfl rfl rfl rfl ((decide_eq_true c16)) (fun a w hS hI hp => does_val (x_move rfl (hS.get 3 rfl)) rfl) ?_
    refine .oy 33 184 rfl rfl rfl rfl rfl ((decide_eq_true c16)) (fun a w hS hI hp => does_val (x_move rfl (hS.get 0 rfl)) rfl) ?_
    refine .oy 33 184 rfl rfl rfl rfl rfl ((decide_eq_true c16)) (fun a w hS hI hp => does_val (x_bin rfl (hp.V 34 rfl rfl) (hp.V 35 rfl rfl) (b_eqb _ _ _ _ _ (by kernel_rfl))) rfl) ?_
    refine .pt 33 36 rfl rfl rfl rfl ((decide_eq_true c16)) rfl rfl ?_
    refine .mv 37 rfl rfl rfl rfl ?_
    refine .oy 38 189 rfl rfl rfl rfl rfl c17 (fun a w hS hI hp => does_call (by kernel_rfl) rfl ((carillonlaw08_awake.calls k  t90 _  At90).mono fun _ _ h => ⟨_, h.1, h.2, rfl⟩)) ?_
    refine .pt 38 39 rfl rfl rfl rfl c17 rfl rfl ?_
    refine .asg 40 rfl rfl rfl rfl ?_
    exact .nil
  clear hS
  intro at91 w92 hS hI hp
  have hBw92_w := hI.1
  have hBw92_w3 := hI.2.1
  have hBw92_w8 := hI.2.2.1
  have hBw92_w15 := hI.2.2.2.1
  have hBw92_w16 := hI.2.2.2.2.1
  have hBw92_w23 := hI.2.2.2.2.2.1
  have hBw92_w24 := hI.2.2.2.2.2.2.1
  have hBw92_w31 := hI.2.2.2.2.2.2.2.1
  have hBw92_w32 := hI.2.2.2.2.2.2.2.2.1
  have hBw92_w39 := hI.2.2.2.2.2.2.2.2.2.1
  have hBw92_w40 := hI.2.2.2.2.2.2.2.2.2.2.1
  have hBw92_w47 := hI.2.2.2.2.2.2.2.2.2.2.2.1
  have hBw92_w48 := hI.2.2.2.2.2.2.2.2.2.2.2.2.1
  have hBw92_w55 := hI.2.2.2.2.2.2.2.2.2.2.2.2.2.1
  have hBw92_w61 := hI.2.2.2.2.2.2.2.2.2.2.2.2.2.2.1
  have hBw92_w65 := hI.2.2.2.2.2.2.2.2.2.2.2.2.2.2.2.1
  have hBw92_w70 := hI.2.2.2.2.2.2.2.2.2.2.2.2.2.2.2.2.1
  have hBw92_w87 := hI.2.2.2.2.2.2.2.2.2.2.2.2.2.2.2.2.2
  replace hS := hS.nil
  have hv10 : sl _ 10 = .bool t90 := hp 41 (by decide)
  have hBw92_w92 := Below.refl w92.heap.size w92
  have hS := hS.cons hv10
  clear hp hI hv10
  refine hK88 _ _ ?_
  (try clear hK88 K88)
  refine wp_ret ?_
  (try simp only [Exit.then, Exit.inBlock, Exit.jump, Exit.noGoto])
  exact bodyPost_ret (v := .bool true) (by rw [results_tmp rfl]; exact congrArg (Result.ok · _) ((hS.get 0 rfl).trans (congrArg Value.bool hret))) hS.nodef ⟨rfl, hBw92_w⟩
def carillonlaw08_TlvKinds.Pure : Prop := ∀ (l0 : List Int) (a1 : Int) (a2 : ByteArray) (a3 a4_0 : Int) (a4_1 : ByteArray), l0.length ≤ maxLen → l0.length * 8 ≤ 140737488351232 → (∀ x ∈ l0, (Lit.int .u64 x).wf = true) → (Lit.int .i64 a1).wf = true → a2.size ≤ 140737488351232 → (Lit.int .i64 a3).wf = true → (Lit.int .i64 a4_0).wf = true → a4_1.size ≤ 9223372036854775807 → ∃ k, carillonlaw08_TlvKinds.f k l0 a1 a2 a3 a4_0 a4_1 = some true
theorem carillonlaw08_TlvKinds.walk (P : carillonlaw08_TlvKinds.Pure) (a0 : Option Addr) (len0 cap0 : Nat) (z0 : List Int) (a1 : Int) (a2 : ByteArray) (a3 a4_0 : Int) (a4_1 : ByteArray) (w : World) (w0 : (a0 = none ∧ len0 = 0 ∧ cap0 = 0 ∧ z0 = []) ∨ ∃ x, a0 = some x ∧ len0 ≤ cap0 ∧ cap0 ≤ maxLen ∧ z0.length = cap0 ∧ (∀ i, i < z0.length → w.cell? (x.add i) = some (.int .u64 (z0.getD i 0))) ∧ ∀ n ∈ z0, (Lit.int .u64 n).wf = true) (y0 : len0 * 8 ≤ 140737488351232) (w1 : (Lit.int .i64 a1).wf = true) (w2 : a2.size ≤ 140737488351232) (w3 : (Lit.int .i64 a3).wf = true) (w4_0 : (Lit.int .i64 a4_0).wf = true) (w4_1 : a4_1.size ≤ 9223372036854775807) :
    Calls Try.prog 8 #[.slice a0 len0 cap0, .int .i64 a1, .string a2, .int .i64 a3, .agg #[.int .i64 a4_0, .string a4_1]] w fun e w' => e = .returned (.bool true) ∧ Below w.heap.size w w' := by
  obtain ⟨l0, rfl, hr0, hm0, hw0, hc0⟩ := ReadsInt.ofRowC w0
  obtain ⟨k, h⟩ := P l0 a1 a2 a3 a4_0 a4_1 hm0 y0 hw0 w1 w2 w3 w4_0 w4_1
  refine (carillonlaw08_TlvKinds.calls k _ _ l0 a1 a2 a3 a4_0 a4_1 w (Kd.C_of_reads (d := (0 : Int)) (h1 := fun _ => rfl) hr0) hc0 h).mono ?_
  rintro e w' ⟨rfl, hd⟩
  exact ⟨rfl, hd⟩
end Go.Proofs.Ytgmiokocipmbaaa.P
