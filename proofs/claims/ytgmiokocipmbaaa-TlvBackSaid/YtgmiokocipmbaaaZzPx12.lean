/- Functions and loops of the given program as Lean functions, and that the code comes to what they say: written by this session's own program; Lean checks it. -/
import Derived.Test.YtgmiokocipmbaaaZzPx0
import Derived.Test.YtgmiokocipmbaaaZzPx2
import Derived.Test.YtgmiokocipmbaaaZzPx3
import Derived.Test.YtgmiokocipmbaaaZzPx4
import Derived.Test.YtgmiokocipmbaaaZzPx7
import Derived.Test.YtgmiokocipmbaaaZzPx8
import Derived.Test.YtgmiokocipmbaaaZzPx9
import Derived.Test.YtgmiokocipmbaaaZzPx10
import Derived.Test.YtgmiokocipmbaaaZzPx11
namespace Go.Proofs.Ytgmiokocipmbaaa.P
open Go.RowKit Go.Proofs.YtgmiokocipmbaaaW.PrintWords Go.Proofs.YtgmiokocipmbaaaW.PrintLast Go.Proofs.YtgmiokocipmbaaaW.PrintMore
attribute [local go_sem] max2_int min2_int max_two min_two max_three min_three max_four min_four   -- for this text's walks alone
set_option linter.unusedVariables false
set_option linter.unusedSimpArgs false
/-! ### carillonlaw08_TlvBack: function 9: by our own printer -/
def carillonlaw08_TlvBack.j2 (k : Nat) (x2_3 : Int) (x2_4 : ByteArray) (y2_15 : List Int) : Option (Bool) := (carillonlaw00_Ids.f y2_15).bind fun t2002 => ((tlv_Path.f k t2002).bind fun t2003 => ((tlv_PathOf.f k t2003.1 t2003.2.1).bind fun t2011 => ((carillonlaw00_Place.f x2_3 65536).bind fun t2016 => ((tlv_Manage.f t2016 x2_4).bind fun t2020 => ((tlv_ManageOf.f k t2020.1 t2020.2.1).bind fun t2029 => ((tlv_Fault.f k t2016 7).bind fun t2033 => ((tlv_FaultOf.f k t2033.1 t2033.2.1).bind fun t2043 => (if t2003.2.2 = true then (if t2011.2 = true then (if t2020.2.2 = true then (if t2029.2.2 = true then (if t2033.2.2 = true then (if t2043.2.2 = true then ((carillonlaw00_SameIds.f k t2011.1 y2_15).bind fun t2048 => (if t2048 = true then (if t2029.1 = t2016 then (if t2043.1 = t2016 then (if t2043.2.1 = 7 then (if (t2029.2.1.toList == x2_4.toList) = true then ((tlv_Check.f t2020.1 t2020.2.1).bind fun t2052 => (if t2052 = true then ((tlv_Known.f t2020.1 t2020.2.1).bind fun t2053 => (if t2053 = true then ((carillonlaw08_awake.f k ).bind fun t2054 => (some t2054)) else (some false))) else (some false))) else (if x2_4.size + (⟨#[0]⟩ : ByteArray).size ≤ 9223372036854775807 then (if (t2029.2.1.toList == (x2_4 ++ (⟨#[0]⟩ : ByteArray)).toList) = true then (if (Int.tmod (x2_4.size : Int) 2) = 1 then ((tlv_Check.f t2020.1 t2020.2.1).bind fun t2052 => (if t2052 = true then ((tlv_Known.f t2020.1 t2020.2.1).bind fun t2053 => (if t2053 = true then ((carillonlaw08_awake.f k ).bind fun t2054 => (some t2054)) else (some false))) else (some false))) else (some false)) else (some false)) else (none))) else (some false)) else (some false)) else (some false)) else (some false))) else (some false)) else (some false)) else (some false)) else (some false)) else (some false)) else (some false)))))))))
def carillonlaw08_TlvBack.j1 (k : Nat) (y1_2 : List Int) (x1_3 : Int) (x1_4 : ByteArray) : Option (Bool) := if (y1_2.length : Int) > 16 then (if 16 ≤ (y1_2.length : Int) then (carillonlaw08_TlvBack.j2 k x1_3 x1_4 (y1_2.take (16 : Int).toNat)) else (none)) else (carillonlaw08_TlvBack.j2 k x1_3 x1_4 y1_2)
def carillonlaw08_TlvBack.f (k : Nat) (l0 : List Int) (l1 : List (S26)) (l2 : List Int) (a3 : Int) (a4 : ByteArray) : Option (Bool) := (carillonlaw08_few.f k l1).bind fun t6 => (if t6 = true then (if (a4.size : Int) > 300 then ((carillonlaw08_awake.f k ).bind fun t10 => (some t10)) else ((carillonlaw00_Bytes.f l0).bind fun t11 => ((tlv_Put.f k t11 l1).bind fun t12 => (if t12.2 = true then ((tlv_Get.f k t12.1 (l0.length : Int)).bind fun t20 => (if t20.2 = 0 then ((carillonlaw00_SameTlvs.f k t20.1 l1).bind fun t25 => (if t25 = true then (carillonlaw08_TlvBack.j1 k l2 a3 a4) else (some false))) else (some false))) else (carillonlaw08_TlvBack.j1 k l2 a3 a4))))) else ((carillonlaw08_awake.f k ).bind fun t10 => (some t10)))
open Go.Proofs.Ytgmiokocipmbaaa.E in
set_option maxHeartbeats 60000000 in
set_option maxRecDepth 100000 in
theorem carillonlaw08_TlvBack.calls (k : Nat) (A0 : Option Addr) (cp0 : Nat) (l0 : List Int) (A1 : Option Addr) (cp1 : Nat) (l1 : List (S26)) (A2 : Option Addr) (cp2 : Nat) (l2 : List Int) (a3 : Int) (a4 : ByteArray) (w : World) (HR0 : Kd.C (Kd.int .u8) w A0 l0.length l0) (HC0 : l0.length ≤ cp0) (HR1 : Kd.C k26 w A1 l1.length l1) (HC1 : l1.length ≤ cp1) (HR2 : Kd.C (Kd.int .u64) w A2 l2.length l2) (HC2 : l2.length ≤ cp2) (h : carillonlaw08_TlvBack.f k l0 l1 l2 a3 a4 = some true) :
    Calls Try.prog 9 #[.slice A0 l0.length cp0, .slice A1 l1.length cp1, .slice A2 l2.length cp2, .int .i64 a3, .string a4] w fun e w' => e = .returned (.bool true) ∧ Below w.heap.size w w' := by
  have H := h
  clear h
  unfold carillonlaw08_TlvBack.f at H
  obtain ⟨t6, At6, H⟩ := Option.bind_eq_some_iff.mp H
  by_cases c1 : t6 = true
  rotate_left
  · rw [if_neg c1] at H
    obtain ⟨t10, At10, H⟩ := Option.bind_eq_some_iff.mp H
    have hret := Option.some.inj H
    clear H
    refine calls_of_wp (fn := Try.f9) (by kernel_rfl) rfl ?_
    have hS := St.enter #[.slice A0 l0.length cp0, .slice A1 l1.length cp1, .slice A2 l2.length cp2, .int .i64 a3, .string a4] 173 (by simp) [(0, .slice A0 l0.length cp0), (1, .slice A1 l1.length cp1), (2, .slice A2 l2.length cp2), (3, .int .i64 a3), (4, .string a4)] (by simp)
    have HB0 := Below.refl w.heap.size w
    refine wp_seq_k (fun K1 hK1 => ?_)
    refine reg_seq (N := 173) (bs := [(0, .slice A0 l0.length cp0), (1, .slice A1 l1.length cp1), (2, .slice A2 l2.length cp2), (3, .int .i64 a3), (4, .string a4)]) (I := fun x => Below w.heap.size w x) (ps := [VB false]) (by kernel_rfl) ?_ ?_ rfl hS HB0 ?_ ?_
    · exact fun x y hI hb => below_step hI hb
    · exact .v (.nil)
    · refine .on rfl (fun a w hS hI hp => does_val (x_assign rfl (rfl)) rfl) ?_
      exact .nil
    clear hS
    intro at2 w3 hS hI hp
    have hBw3_w := hI
    have hBw3_w3 := Below.refl w3.heap.size w3
    clear hp hI
    refine hK1 _ _ ?_
    (try clear hK1 K1)
    refine wp_seq_k (fun K4 hK4 => ?_)
    refine wp_seq_k (fun K5 hK5 => ?_)
    refine reg_seq (N := 173) (bs := [(0, .slice A0 l0.length cp0), (1, .slice A1 l1.length cp1), (2, .slice A2 l2.length cp2), (3, .int .i64 a3), (4, .string a4)]) (I := fun x => Below w.heap.size w x ∧ Below w3.heap.size w3 x) (ps := [IsV (.slice A1 l1.length cp1), VB t6, VB (!t6), VB (!t6), VU, VU, VU, VB true]) (by kernel_rfl) ?_ ?_ rfl hS ⟨hBw3_w, hBw3_w3⟩ ?_ ?_
    · exact fun x y hI hb => ⟨below_step hI.1 hb, below_step hI.2 hb⟩
    · exact .v (.v (.v (.v (.v (.v (.v (.v (.nil))))))))
    · refine .ms 1 rfl rfl rfl ?_
      refine .on rfl (fun a w hS hI hp => does_call (by kernel_rfl) (ar1 (hp.V 0 rfl rfl)) ((carillonlaw08_few.calls k _ _ l1 t6 _ (Kd.C_below HR1 hI.1) HC1 At6).mono fun _ _ h => ⟨_, h.1, h.2.below, rfl⟩)) ?_
      refine .on rfl (fun a w hS hI hp => does_val (x_not rfl (hp.V 1 rfl rfl)) rfl) ?_
      refine .mv 2 rfl rfl rfl rfl ?_
      iterate 3 refine .sn 3 34 rfl rfl rfl rfl rfl ((congrArg (!·) (Bool.eq_false_iff.2 c1))) ?_
      refine .on rfl (fun a w hS hI hp => does_val (x_pickT rfl ((hp.V 3 rfl rfl).trans (bT (congrArg (!·) (Bool.eq_false_iff.2 c1)))) (rfl)) rfl) ?_
      exact .nil
    clear hS
    intro at7 w8 hS hI hp
    have hBw8_w := hI.1
    have hBw8_w3 := hI.2
    have hv38 : sl _ 38 = .bool true := hp 7 (by decide)
    have hBw8_w8 := Below.refl w8.heap.size w8
    have hS := hS.cons hv38
    clear hp hI hv38
    refine hK5 _ _ ?_
    (try clear hK5 K5)
    refine wp_cond_true ((hS.get 0 rfl).trans (bT rfl)) ?_
    refine wp_seq_k (fun K9 hK9 => ?_)
    refine reg_seq (N := 173) (bs := [(38, .bool true), (0, .slice A0 l0.length cp0), (1, .slice A1 l1.length cp1), (2, .slice A2 l2.length cp2), (3, .int .i64 a3), (4, .string a4)]) (I := fun x => Below w.heap.size w x ∧ Below w8.heap.size w8 x) (ps := [VB t10, VB t10]) (by kernel_rfl) ?_ ?_ rfl hS ⟨hBw8_w, hBw8_w8⟩ ?_ ?_
    · exact fun x y hI hb => ⟨below_step hI.1 hb, below_step hI.2 hb⟩
    · exact .v (.v (.nil))
    · refine .on rfl (fun a w hS hI hp => does_call (by kernel_rfl) rfl ((carillonlaw08_awake.calls k  t10 _  At10).mono fun _ _ h => ⟨_, h.1, h.2, rfl⟩)) ?_
      refine .asg 0 rfl rfl rfl rfl ?_
      exact .nil
    clear hS
    intro at11 w12 hS hI hp
    have hBw12_w := hI.1
    have hBw12_w8 := hI.2
    replace hS := hS.nil
    have hv10 : sl _ 10 = .bool t10 := hp 1 (by decide)
    have hBw12_w12 := Below.refl w12.heap.size w12
    have hS := hS.cons hv10
    clear hp hI hv10
    refine hK9 _ _ ?_
    (try clear hK9 K9)
    refine wp_ret ?_
    (try simp only [Exit.then, Exit.inBlock, Exit.jump, Exit.noGoto])
    exact bodyPost_ret (v := .bool true) (by rw [results_tmp rfl]; exact congrArg (Result.ok · _) ((hS.get 0 rfl).trans (congrArg Value.bool hret))) hS.nodef ⟨rfl, hBw12_w⟩
  rw [if_pos c1] at H
  by_cases c2 : (a4.size : Int) > 300
  · rw [if_pos c2] at H
    obtain ⟨t10, At10, H⟩ := Option.bind_eq_some_iff.mp H
    have hret := Option.some.inj H
    clear H
    refine calls_of_wp (fn := Try.f9) (by kernel_rfl) rfl ?_
    have hS := St.enter #[.slice A0 l0.length cp0, .slice A1 l1.length cp1, .slice A2 l2.length cp2, .int .i64 a3, .string a4] 173 (by simp) [(0, .slice A0 l0.length cp0), (1, .slice A1 l1.length cp1), (2, .slice A2 l2.length cp2), (3, .int .i64 a3), (4, .string a4)] (by simp)
    have HB0 := Below.refl w.heap.size w
    refine wp_seq_k (fun K1 hK1 => ?_)
    refine reg_seq (N := 173) (bs := [(0, .slice A0 l0.length cp0), (1, .slice A1 l1.length cp1), (2, .slice A2 l2.length cp2), (3, .int .i64 a3), (4, .string a4)]) (I := fun x => Below w.heap.size w x) (ps := [VB false]) (by kernel_rfl) ?_ ?_ rfl hS HB0 ?_ ?_
    · exact fun x y hI hb => below_step hI hb
    · exact .v (.nil)
    · refine .on rfl (fun a w hS hI hp => does_val (x_assign rfl (rfl)) rfl) ?_
      exact .nil
    clear hS
    intro at2 w3 hS hI hp
    have hBw3_w := hI
    have hBw3_w3 := Below.refl w3.heap.size w3
    clear hp hI
    refine hK1 _ _ ?_
    (try clear hK1 K1)
    refine wp_seq_k (fun K4 hK4 => ?_)
    refine wp_seq_k (fun K5 hK5 => ?_)
    refine reg_seq (N := 173) (bs := [(0, .slice A0 l0.length cp0), (1, .slice A1 l1.length cp1), (2, .slice A2 l2.length cp2), (3, .int .i64 a3), (4, .string a4)]) (I := fun x => Below w.heap.size w x ∧ Below w3.heap.size w3 x) (ps := [IsV (.slice A1 l1.length cp1), VB t6, VB (!t6), VB (!t6), IsV (.string a4), VI (a4.size : Int), VB (decide ((a4.size : Int) > 300)), VB (decide ((a4.size : Int) > 300))]) (by kernel_rfl) ?_ ?_ rfl hS ⟨hBw3_w, hBw3_w3⟩ ?_ ?_
    · exact fun x y hI hb => ⟨below_step hI.1 hb, below_step hI.2 hb⟩
    · exact .v (.v (.v (.v (.v (.v (.v (.v (.nil))))))))
    · refine .ms 1 rfl rfl rfl ?_
      refine .on rfl (fun a w hS hI hp => does_call (by kernel_rfl) (ar1 (hp.V 0 rfl rfl)) ((carillonlaw08_few.calls k _ _ l1 t6 _ (Kd.C_below HR1 hI.1) HC1 At6).mono fun _ _ h => ⟨_, h.1, h.2.below, rfl⟩)) ?_
      refine .on rfl (fun a w hS hI hp => does_val (x_not rfl (hp.V 1 rfl rfl)) rfl) ?_
      refine .mv 2 rfl rfl rfl rfl ?_
      refine .oy 3 34 rfl rfl rfl rfl rfl ((congrArg (!·) c1)) (fun a w hS hI hp => does_val (x_move rfl (hS.get 4 rfl)) rfl) ?_
      refine .oy 3 34 rfl rfl rfl rfl rfl ((congrArg (!·) c1)) (fun a w hS hI hp => does_val (x_lenS rfl (by kernel_rfl) (hp.V 4 rfl rfl)) rfl) ?_
      refine .oy 3 34 rfl rfl rfl rfl rfl ((congrArg (!·) c1)) (fun a w hS hI hp => does_val (x_bin rfl (hp.V 5 rfl rfl) (rfl) (b_gtr _ _ _ _ _ _)) rfl) ?_
      refine .on rfl (fun a w hS hI hp => does_val (x_pickF rfl ((hp.V 3 rfl rfl).trans (bF (congrArg (!·) c1))) (hp.V 6 rfl rfl)) rfl) ?_
      exact .nil
    clear hS
    intro at7 w8 hS hI hp
    have hBw8_w := hI.1
    have hBw8_w3 := hI.2
    have hv38 : sl _ 38 = .bool (decide ((a4.size : Int) > 300)) := hp 7 (by decide)
    have hBw8_w8 := Below.refl w8.heap.size w8
    have hS := hS.cons hv38
    clear hp hI hv38
    refine hK5 _ _ ?_
    (try clear hK5 K5)
    refine wp_cond_true ((hS.get 0 rfl).trans (bT (decide_eq_true c2))) ?_
    refine wp_seq_k (fun K9 hK9 => ?_)
    refine reg_seq (N := 173) (bs := [(38, .bool (decide ((a4.size : Int) > 300))), (0, .slice A0 l0.length cp0), (1, .slice A1 l1.length cp1), (2, .slice A2 l2.length cp2), (3, .int .i64 a3), (4, .string a4)]) (I := fun x => Below w.heap.size w x ∧ Below w8.heap.size w8 x) (ps := [VB t10, VB t10]) (by kernel_rfl) ?_ ?_ rfl hS ⟨hBw8_w, hBw8_w8⟩ ?_ ?_
    · exact fun x y hI hb => ⟨below_step hI.1 hb, below_step hI.2 hb⟩
    · exact .v (.v (.nil))
    · refine .on rfl (fun a w hS hI hp => does_call (by kernel_rfl) rfl ((carillonlaw08_awake.calls k  t10 _  At10).mono fun _ _ h => ⟨_, h.1, h.2, rfl⟩)) ?_
      refine .asg 0 rfl rfl rfl rfl ?_
      exact .nil
    clear hS
    intro at11 w12 hS hI hp
    have hBw12_w := hI.1
    have hBw12_w8 := hI.2
    replace hS := hS.nil
    have hv10 : sl _ 10 = .bool t10 := hp 1 (by decide)
    have hBw12_w12 := Below.refl w12.heap.size w12
    have hS := hS.cons hv10
    clear hp hI hv10
    refine hK9 _ _ ?_
    (try clear hK9 K9)
    refine wp_ret ?_
    (try simp only [Exit.then, Exit.inBlock, Exit.jump, Exit.noGoto])
    exact bodyPost_ret (v := .bool true) (by rw [results_tmp rfl]; exact congrArg (Result.ok · _) ((hS.get 0 rfl).trans (congrArg Value.bool hret))) hS.nodef ⟨rfl, hBw12_w⟩
  rw [if_neg c2] at H
  refine calls_of_wp (fn := Try.f9) (by kernel_rfl) rfl ?_
  have hS := St.enter #[.slice A0 l0.length cp0, .slice A1 l1.length cp1, .slice A2 l2.length cp2, .int .i64 a3, .string a4] 173 (by simp) [(0, .slice A0 l0.length cp0), (1, .slice A1 l1.length cp1), (2, .slice A2 l2.length cp2), (3, .int .i64 a3), (4, .string a4)] (by simp)
  have HB0 := Below.refl w.heap.size w
  refine wp_seq_k (fun K1 hK1 => ?_)
  refine reg_seq (N := 173) (bs := [(0, .slice A0 l0.length cp0), (1, .slice A1 l1.length cp1), (2, .slice A2 l2.length cp2), (3, .int .i64 a3), (4, .string a4)]) (I := fun x => Below w.heap.size w x) (ps := [VB false]) (by kernel_rfl) ?_ ?_ rfl hS HB0 ?_ ?_
  · exact fun x y hI hb => below_step hI hb
  · exact .v (.nil)
  · refine .on rfl (fun a w hS hI hp => does_val (x_assign rfl (rfl)) rfl) ?_
    exact .nil
  clear hS
  intro at2 w3 hS hI hp
  have hBw3_w := hI
  have hBw3_w3 := Below.refl w3.heap.size w3
  clear hp hI
  refine hK1 _ _ ?_
  (try clear hK1 K1)
  refine wp_seq_k (fun K4 hK4 => ?_)
  refine wp_seq_k (fun K5 hK5 => ?_)
  refine reg_seq (N := 173) (bs := [(0, .slice A0 l0.length cp0), (1, .slice A1 l1.length cp1), (2, .slice A2 l2.length cp2), (3, .int .i64 a3), (4, .string a4)]) (I := fun x => Below w.heap.size w x ∧ Below w3.heap.size w3 x) (ps := [IsV (.slice A1 l1.length cp1), VB t6, VB (!t6), VB (!t6), IsV (.string a4), VI (a4.size : Int), VB (decide ((a4.size : Int) > 300)), VB (decide ((a4.size : Int) > 300))]) (by kernel_rfl) ?_ ?_ rfl hS ⟨hBw3_w, hBw3_w3⟩ ?_ ?_
  · exact fun x y hI hb => ⟨below_step hI.1 hb, below_step hI.2 hb⟩
  · exact .v (.v (.v (.v (.v (.v (.v (.v (.nil))))))))
  · refine .ms 1 rfl rfl rfl ?_
    refine .on rfl (fun a w hS hI hp => does_call (by kernel_rfl) (ar1 (hp.V 0 rfl rfl)) ((carillonlaw08_few.calls k _ _ l1 t6 _ (Kd.C_below HR1 hI.1) HC1 At6).mono fun _ _ h => ⟨_, h.1, h.2.below, rfl⟩)) ?_
    refine .on rfl (fun a w hS hI hp => does_val (x_not rfl (hp.V 1 rfl rfl)) rfl) ?_
    refine .mv 2 rfl rfl rfl rfl ?_
    refine .oy 3 34 rfl rfl rfl rfl rfl ((congrArg (!·) c1)) (fun a w hS hI hp => does_val (x_move rfl (hS.get 4 rfl)) rfl) ?_
    refine .oy 3 34 rfl rfl rfl rfl rfl ((congrArg (!·) c1)) (fun a w hS hI hp => does_val (x_lenS rfl (by kernel_rfl) (hp.V 4 rfl rfl)) rfl) ?_
    refine .oy 3 34 rfl rfl rfl rfl rfl ((congrArg (!·) c1)) (fun a w hS hI hp => does_val (x_bin rfl (hp.V 5 rfl rfl) (rfl) (b_gtr _ _ _ _ _ _)) rfl) ?_
    refine .on rfl (fun a w hS hI hp => does_val (x_pickF rfl ((hp.V 3 rfl rfl).trans (bF (congrArg (!·) c1))) (hp.V 6 rfl rfl)) rfl) ?_
    exact .nil
  clear hS
  intro at7 w8 hS hI hp
  have hBw8_w := hI.1
  have hBw8_w3 := hI.2
  have hv38 : sl _ 38 = .bool (decide ((a4.size : Int) > 300)) := hp 7 (by decide)
  have hBw8_w8 := Below.refl w8.heap.size w8
  have hS := hS.cons hv38
  clear hp hI hv38
  refine hK5 _ _ ?_
  (try clear hK5 K5)
  refine wp_cond_false ((hS.get 0 rfl).trans (bF (decide_eq_false c2))) ?_
  refine wp_skip ?_
  refine hK4 _ _ ?_
  (try clear hK4 K4)
  refine wp_seq_k (fun K9 hK9 => ?_)
  have J1 : ∀ (aL1 : Act) (wL1 : World) (y1_2 : List Int) (AL1_2 : Option Addr) (CL1_2 : Nat) (x1_3 : Int) (x1_4 : ByteArray), carillonlaw08_TlvBack.j1 k y1_2 x1_3 x1_4 = some true → St 173 [(2, .slice AL1_2 y1_2.length CL1_2), (3, .int .i64 x1_3), (4, .string x1_4)] aL1 → Below w.heap.size w wL1 → y1_2.length ≤ CL1_2 → Kd.C (Kd.int .u64) w AL1_2 y1_2.length y1_2 → K9 aL1 wL1 := by
    intro aL1 wL1 y1_2 AL1_2 CL1_2 x1_3 x1_4 H hS hBwL1_w hr1_2 hcL1_2
    unfold carillonlaw08_TlvBack.j1 at H
    (try dsimp only at H)
    have hBwL1_wL1 := Below.refl wL1.heap.size wL1
    refine hK9 _ _ ?_
    (try clear hK9 K9)
    refine wp_seq_k (fun K1001 hK1001 => ?_)
    refine reg_seq (N := 173) (bs := [(2, .slice AL1_2 y1_2.length CL1_2), (3, .int .i64 x1_3), (4, .string x1_4)]) (I := fun x => Below w.heap.size w x ∧ Below wL1.heap.size wL1 x) (ps := [IsV (.slice AL1_2 y1_2.length CL1_2), IsV (.slice AL1_2 y1_2.length CL1_2)]) (by kernel_rfl) ?_ ?_ rfl hS ⟨hBwL1_w, hBwL1_wL1⟩ ?_ ?_
    · exact fun x y hI hb => ⟨below_step hI.1 hb, below_step hI.2 hb⟩
    · exact .v (.v (.nil))
    · refine .ms 0 rfl rfl rfl ?_
      refine .asg 0 rfl rfl rfl rfl ?_
      exact .nil
    clear hS
    intro at1002 w1003 hS hI hp
    have hBw1003_w := hI.1
    have hBw1003_wL1 := hI.2
    replace hS := ((hS.nil).cons (hS.get 2 rfl)).cons (hS.get 1 rfl)
    have hv15 : sl _ 15 = .slice AL1_2 y1_2.length CL1_2 := hp 1 (by decide)
    have hBw1003_w1003 := Below.refl w1003.heap.size w1003
    have hS := hS.cons hv15
    clear hp hI hv15
    refine hK1001 _ _ ?_
    (try clear hK1001 K1001)
    refine wp_seq_k (fun K1004 hK1004 => ?_)
    have J2 : ∀ (aL2 : Act) (wL2 : World) (x2_3 : Int) (x2_4 : ByteArray) (y2_15 : List Int) (AL2_15 : Option Addr) (CL2_15 : Nat), carillonlaw08_TlvBack.j2 k x2_3 x2_4 y2_15 = some true → St 173 [(3, .int .i64 x2_3), (4, .string x2_4), (15, .slice AL2_15 y2_15.length CL2_15)] aL2 → Below w.heap.size w wL2 → y2_15.length ≤ CL2_15 → Kd.C (Kd.int .u64) w AL2_15 y2_15.length y2_15 → K1004 aL2 wL2 := by
      intro aL2 wL2 x2_3 x2_4 y2_15 AL2_15 CL2_15 H hS hBwL2_w hr2_15 hcL2_15
      unfold carillonlaw08_TlvBack.j2 at H
      (try dsimp only at H)
      obtain ⟨t2002, At2002, H⟩ := Option.bind_eq_some_iff.mp H
      obtain ⟨t2003, At2003, H⟩ := Option.bind_eq_some_iff.mp H
      obtain ⟨t2003_1, t2003_2, t2003_3⟩ := t2003
      (try dsimp only at H)
      obtain ⟨t2011, At2011, H⟩ := Option.bind_eq_some_iff.mp H
      obtain ⟨t2011_1, t2011_2⟩ := t2011
      (try dsimp only at H)
      obtain ⟨t2016, At2016, H⟩ := Option.bind_eq_some_iff.mp H
      obtain ⟨t2020, At2020, H⟩ := Option.bind_eq_some_iff.mp H
      obtain ⟨t2020_1, t2020_2, t2020_3⟩ := t2020
      (try dsimp only at H)
      obtain ⟨t2029, At2029, H⟩ := Option.bind_eq_some_iff.mp H
      obtain ⟨t2029_1, t2029_2, t2029_3⟩ := t2029
      (try dsimp only at H)
      obtain ⟨t2033, At2033, H⟩ := Option.bind_eq_some_iff.mp H
      obtain ⟨t2033_1, t2033_2, t2033_3⟩ := t2033
      (try dsimp only at H)
      obtain ⟨t2043, At2043, H⟩ := Option.bind_eq_some_iff.mp H
      obtain ⟨t2043_1, t2043_2, t2043_3⟩ := t2043
      (try dsimp only at H)
      by_cases c3 : t2003_3 = true
      rotate_left
      · rw [if_neg c3] at H
        exact absurd H (by simp)
      rw [if_pos c3] at H
      by_cases c4 : t2011_2 = true
      rotate_left
      · rw [if_neg c4] at H
        exact absurd H (by simp)
      rw [if_pos c4] at H
      by_cases c5 : t2020_3 = true
      rotate_left
      · rw [if_neg c5] at H
        exact absurd H (by simp)
      rw [if_pos c5] at H
      by_cases c6 : t2029_3 = true
      rotate_left
      · rw [if_neg c6] at H
        exact absurd H (by simp)
      rw [if_pos c6] at H
      by_cases c7 : t2033_3 = true
      rotate_left
      · rw [if_neg c7] at H
        exact absurd H (by simp)
      rw [if_pos c7] at H
      by_cases c8 : t2043_3 = true
      rotate_left
      · rw [if_neg c8] at H
        exact absurd H (by simp)
      rw [if_pos c8] at H
      obtain ⟨t2048, At2048, H⟩ := Option.bind_eq_some_iff.mp H
      by_cases c9 : t2048 = true
      rotate_left
      · rw [if_neg c9] at H
        exact absurd H (by simp)
      rw [if_pos c9] at H
      by_cases c10 : t2029_1 = t2016
      rotate_left
      · rw [if_neg c10] at H
        exact absurd H (by simp)
      rw [if_pos c10] at H
      by_cases c11 : t2043_1 = t2016
      rotate_left
      · rw [if_neg c11] at H
        exact absurd H (by simp)
      rw [if_pos c11] at H
      by_cases c12 : t2043_2 = 7
      rotate_left
      · rw [if_neg c12] at H
        exact absurd H (by simp)
      rw [if_pos c12] at H
      by_cases c13 : (t2029_2.toList == x2_4.toList) = true
      · rw [if_pos c13] at H
        obtain ⟨t2052, At2052, H⟩ := Option.bind_eq_some_iff.mp H
        by_cases c14 : t2052 = true
        rotate_left
        · rw [if_neg c14] at H
          exact absurd H (by simp)
        rw [if_pos c14] at H
        obtain ⟨t2053, At2053, H⟩ := Option.bind_eq_some_iff.mp H
        by_cases c15 : t2053 = true
        rotate_left
        · rw [if_neg c15] at H
          exact absurd H (by simp)
        rw [if_pos c15] at H
        obtain ⟨t2054, At2054, H⟩ := Option.bind_eq_some_iff.mp H
        have hret := Option.some.inj H
        clear H
        have hBwL2_wL2 := Below.refl wL2.heap.size wL2
        refine hK1004 _ _ ?_
        (try clear hK1004 K1004)
        refine wp_seq_k (fun K2001 hK2001 => ?_)
        refine reg_seq_tail 7 (N := 173) (bs := [(3, .int .i64 x2_3), (4, .string x2_4), (15, .slice AL2_15 y2_15.length CL2_15)]) (I := fun x => Below w.heap.size w x ∧ Below wL2.heap.size wL2 x) (ps := [IsV (.slice AL2_15 y2_15.length CL2_15), IsR (Kd.int .u64) 58 wL2.heap.size t2002, IsV (.tuple #[.agg #[.int .i64 t2003_1, .string t2003_2], .bool t2003_3]), IsV (.tuple #[.agg #[.int .i64 t2003_1, .string t2003_2], .bool t2003_3]), IsV (.agg #[.int .i64 t2003_1, .string t2003_2]), VB t2003_3, IsB #[.int .i64 0, .string (⟨#[]⟩ : ByteArray)] 26 wL2.heap.size]) (by kernel_rfl) ?_ ?_ rfl hS ⟨hBwL2_w, hBwL2_wL2⟩ ?_ ?_
        · exact fun x y hI hb => ⟨below_step hI.1 hb, below_step hI.2 hb⟩
        · exact .v (.cons (Stays.r _ _ _ _) (.v (.v (.v (.v (.cons (Stays.b _ _ _) (.nil)))))))
        · refine .ms 2 rfl rfl rfl ?_
          refine .on rfl (fun a w hS hI hp => does_call (by kernel_rfl) (ar1 (hp.V 0 rfl rfl)) ((carillonlaw00_Ids.calls _ _ y2_15 t2002 _ (Kd.C_below hcL2_15 hI.1) hr2_15 At2002).mono fun _ _ h => h.elim fun v0 h => ⟨v0, h.1, h.2.2, Kd.R_lower h.2.1 hI.2.size⟩)) ?_
          refine .on rfl (fun a w hS hI hp => (IsC.of_r (hp.V 1 rfl rfl)).elim fun A_ h_ => h_.elim fun c_ h_ => h_.elim fun hv_ h_ => h_.elim fun hl_ hc_ => does_call (by kernel_rfl) (ar1 (hv_)) ((tlv_Path.calls k _ _ t2002 t2003_1 t2003_2 t2003_3 _ hc_ hl_ At2003).mono fun _ _ h => ⟨_, h.1, h.2, rfl⟩)) ?_
          refine .mv 2 rfl rfl rfl rfl ?_
          iterate 2 refine .on rfl (fun a w hS hI hp => does_val (x_extract rfl (hp.V 3 rfl rfl) rfl) rfl) ?_
          refine .on rfl (fun a w hS hI hp => does_var (x_alloc rfl (by kernel_rfl)) (hI.2).size) ?_
          exact .nil
        clear hS
        intro at2004 w2005 hS hI hp
        have hBw2005_w := hI.1
        have hBw2005_wL2 := hI.2
        have hv73 : sl _ 73 = .agg #[.int .i64 t2003_1, .string t2003_2] := hp 4 (by decide)
        have hv74 : sl _ 74 = .bool t2003_3 := hp 5 (by decide)
        obtain ⟨g2006, hv16, hgeg2006, hbxg2006⟩ := (show IsB _ 26 _ (sl _ 16) _ from hp 6 (by decide))
        have hBw2005_w2005 := Below.refl w2005.heap.size w2005
        have hS := hS.cons hv73
        have hS := hS.cons hv74
        have hS := hS.cons hv16
        clear hp hI hv73 hv74 hv16
        show wpList _ _ _ [_, _] _ _
        refine list_step rfl (does_storeAll (g := g2006) (cs := #[.int .i64 t2003_1, .string t2003_2]) rfl (hS.get 0 rfl) (hS.get 2 rfl) ((hBw2005_w2005.block g2006 (blk_lt hbxg2006)).trans hbxg2006) (by kernel_rfl) (by kernel_rfl) (by kernel_rfl)) ?_
        rintro vw2007 w2007 ⟨rfl, hbxw2007, hT⟩
        have hBw2007_w := hT.below hBw2005_w (Nat.le_trans (hBwL2_w).size hgeg2006) (hBw2005_w).size
        have hBw2007_wL2 := hT.below hBw2005_wL2 hgeg2006 (hBw2005_wL2).size
        have hBw2007_w2007 := Below.refl w2007.heap.size w2007
        clear hT
        refine list_step rfl (R := fun v w' => Below _ _ w' ∧ (VB t2003_3) v w') (does_val (x_assign rfl (hS.get 1 rfl)) rfl) ?_
        rintro vw2008 w2008 ⟨hb, he⟩
        have hBw2008_w := below_step hBw2007_w hb
        have hBw2008_wL2 := below_step hBw2007_wL2 hb
        have hBw2008_w2007 := below_step hBw2007_w2007 hb
        have hBw2008_w2008 := Below.refl w2008.heap.size w2008
        obtain rfl : vw2008 = .bool t2003_3 := he
        refine hS.next (v := .bool t2003_3) (d := 17) rfl (by decide) (by rfl) ?_
        clear hS
        intro at2009 hS
        refine wpList_nil ?_
        refine hK2001 _ _ ?_
        (try clear hK2001 K2001)
        refine wp_seq_k (fun K2010 hK2010 => ?_)
        refine reg_seq (N := 173) (bs := [(17, .bool t2003_3), (16, .pointer (some ⟨g2006, 0, none⟩)), (74, .bool t2003_3), (73, .agg #[.int .i64 t2003_1, .string t2003_2]), (3, .int .i64 x2_3), (4, .string x2_4), (15, .slice AL2_15 y2_15.length CL2_15)]) (I := fun x => Below w.heap.size w x ∧ Below wL2.heap.size wL2 x ∧ Below w2007.heap.size w2007 x ∧ Below w2008.heap.size w2008 x) (ps := [IsV (.agg #[.int .i64 t2003_1, .string t2003_2]), IsT (fun v0_ => #[v0_, .bool t2011_2]) (IsR (Kd.int .u64) 58 w2008.heap.size t2011_1), IsT (fun v0_ => #[v0_, .bool t2011_2]) (IsR (Kd.int .u64) 58 w2008.heap.size t2011_1), IsR (Kd.int .u64) 58 w2008.heap.size t2011_1, VB t2011_2, IsR (Kd.int .u64) 58 w2008.heap.size t2011_1, VB t2011_2]) (by kernel_rfl) ?_ ?_ rfl hS ⟨hBw2008_w, hBw2008_wL2, hBw2008_w2007, hBw2008_w2008⟩ ?_ ?_
        · exact fun x y hI hb => ⟨below_step hI.1 hb, below_step hI.2.1 hb, below_step hI.2.2.1 hb, below_step hI.2.2.2 hb⟩
        · exact .v (.cons (Stays.t _ (Stays.r _ _ _ _)) (.cons (Stays.t _ (Stays.r _ _ _ _)) (.cons (Stays.r _ _ _ _) (.v (.cons (Stays.r _ _ _ _) (.v (.nil)))))))
        · refine .on rfl (fun a w hS hI hp => does_loadrow rfl (hS.get 1 rfl) (((hI.2.2.1).block g2006 (blk_lt hbxw2007)).trans hbxw2007) Try.underlying26 rfl (by kernel_rfl) rfl) ?_
          refine .on rfl (fun a w hS hI hp => does_call (by kernel_rfl) (ar1 (hp.V 0 rfl rfl)) ((tlv_PathOf.calls k t2003_1 t2003_2 t2011_1 t2011_2 _  At2011).mono fun _ _ h => h.elim fun v0 h => ⟨_, h.1, h.2.2, v0, rfl, Kd.R_lower h.2.1 hI.2.2.2.size⟩)) ?_
          refine .on rfl (fun a w hS hI hp => does_val (x_move rfl rfl) (hp.V 1 rfl rfl)) ?_
          refine .on rfl (fun a w hS hI hp => (hp.V 2 rfl rfl).elim fun v0 h0 => does_val (x_extract rfl h0.1 rfl) h0.2) ?_
          refine .on rfl (fun a w hS hI hp => (hp.V 2 rfl rfl).elim fun v0 h0 => does_val (x_extract rfl h0.1 rfl) rfl) ?_
          refine .on rfl (fun a w hS hI hp => does_val (x_assign rfl rfl) (hp.V 3 rfl rfl)) ?_
          refine .asg 4 rfl rfl rfl rfl ?_
          exact .nil
        clear hS
        intro at2012 w2013 hS hI hp
        have hBw2013_w := hI.1
        have hBw2013_wL2 := hI.2.1
        have hBw2013_w2007 := hI.2.2.1
        have hBw2013_w2008 := hI.2.2.2
        replace hS := ((((hS.nil).cons (hS.get 6 rfl)).cons (hS.get 5 rfl)).cons (hS.get 4 rfl)).cons (hS.get 0 rfl)
        obtain ⟨A2014, C2014, hv18, hl2014, hc2014⟩ := Kd.R_reads (show Kd.R (Kd.int .u64) 58 w2013 w2008.heap.size (fun _ => True) (sl _ 18) t2011_1 from hp 5 (by decide))
        have ho2014 : Kd.R (Kd.int .u64) 58 w2013 w2008.heap.size (fun _ => True) (.slice A2014 t2011_1.length C2014) t2011_1 := hv18 ▸ (hp 5 (by decide))
        have hv19 : sl _ 19 = .bool t2011_2 := hp 6 (by decide)
        have hBw2013_w2013 := Below.refl w2013.heap.size w2013
        have hS := hS.cons hv18
        have hS := hS.cons hv19
        clear hp hI hv18 hv19
        refine hK2010 _ _ ?_
        (try clear hK2010 K2010)
        refine wp_seq_k (fun K2015 hK2015 => ?_)
        refine reg_seq (N := 173) (bs := [(19, .bool t2011_2), (18, .slice A2014 t2011_1.length C2014), (17, .bool t2003_3), (3, .int .i64 x2_3), (4, .string x2_4), (15, .slice AL2_15 y2_15.length CL2_15)]) (I := fun x => Below w.heap.size w x ∧ Below wL2.heap.size wL2 x ∧ Below w2007.heap.size w2007 x ∧ Below w2008.heap.size w2008 x ∧ Below w2013.heap.size w2013 x) (ps := [VI x2_3, VI t2016, VI t2016]) (by kernel_rfl) ?_ ?_ rfl hS ⟨hBw2013_w, hBw2013_wL2, hBw2013_w2007, hBw2013_w2008, hBw2013_w2013⟩ ?_ ?_
        · exact fun x y hI hb => ⟨below_step hI.1 hb, below_step hI.2.1 hb, below_step hI.2.2.1 hb, below_step hI.2.2.2.1 hb, below_step hI.2.2.2.2 hb⟩
        · exact .v (.v (.v (.nil)))
        · refine .ms 3 rfl rfl rfl ?_
          refine .on rfl (fun a w hS hI hp => does_call (by kernel_rfl) (ar2 (hp.V 0 rfl rfl) (rfl)) ((carillonlaw00_Place.calls x2_3 65536 t2016 _  At2016).mono fun _ _ h => ⟨_, h.1, h.2.below, rfl⟩)) ?_
          refine .asg 1 rfl rfl rfl rfl ?_
          exact .nil
        clear hS
        intro at2017 w2018 hS hI hp
        have hBw2018_w := hI.1
        have hBw2018_wL2 := hI.2.1
        have hBw2018_w2007 := hI.2.2.1
        have hBw2018_w2008 := hI.2.2.2.1
        have hBw2018_w2013 := hI.2.2.2.2
        replace hS := (((((hS.nil).cons (hS.get 5 rfl)).cons (hS.get 4 rfl)).cons (hS.get 2 rfl)).cons (hS.get 1 rfl)).cons (hS.get 0 rfl)
        have hv20 : sl _ 20 = .int .i64 t2016 := hp 2 (by decide)
        have hBw2018_w2018 := Below.refl w2018.heap.size w2018
        have hS := hS.cons hv20
        clear hp hI hv20
        refine hK2015 _ _ ?_
        (try clear hK2015 K2015)
        refine wp_seq_k (fun K2019 hK2019 => ?_)
        refine reg_seq_tail 7 (N := 173) (bs := [(20, .int .i64 t2016), (19, .bool t2011_2), (18, .slice A2014 t2011_1.length C2014), (17, .bool t2003_3), (4, .string x2_4), (15, .slice AL2_15 y2_15.length CL2_15)]) (I := fun x => Below w.heap.size w x ∧ Below wL2.heap.size wL2 x ∧ Below w2007.heap.size w2007 x ∧ Below w2008.heap.size w2008 x ∧ Below w2013.heap.size w2013 x ∧ Below w2018.heap.size w2018 x) (ps := [VI t2016, IsV (.string x2_4), IsV (.tuple #[.agg #[.int .i64 t2020_1, .string t2020_2], .bool t2020_3]), IsV (.tuple #[.agg #[.int .i64 t2020_1, .string t2020_2], .bool t2020_3]), IsV (.agg #[.int .i64 t2020_1, .string t2020_2]), VB t2020_3, IsB #[.int .i64 0, .string (⟨#[]⟩ : ByteArray)] 26 w2018.heap.size]) (by kernel_rfl) ?_ ?_ rfl hS ⟨hBw2018_w, hBw2018_wL2, hBw2018_w2007, hBw2018_w2008, hBw2018_w2013, hBw2018_w2018⟩ ?_ ?_
        · exact fun x y hI hb => ⟨below_step hI.1 hb, below_step hI.2.1 hb, below_step hI.2.2.1 hb, below_step hI.2.2.2.1 hb, below_step hI.2.2.2.2.1 hb, below_step hI.2.2.2.2.2 hb⟩
        · exact .v (.v (.v (.v (.v (.v (.cons (Stays.b _ _ _) (.nil)))))))
        · refine .ms 0 rfl rfl rfl ?_
          refine .ms 4 rfl rfl rfl ?_
          refine .on rfl (fun a w hS hI hp => does_call (by kernel_rfl) (ar2 (hp.V 0 rfl rfl) (hp.V 1 rfl rfl)) ((tlv_Manage.calls t2016 x2_4 t2020_1 t2020_2 t2020_3 _  At2020).mono fun _ _ h => ⟨_, h.1, h.2, rfl⟩)) ?_
          refine .mv 2 rfl rfl rfl rfl ?_
          iterate 2 refine .on rfl (fun a w hS hI hp => does_val (x_extract rfl (hp.V 3 rfl rfl) rfl) rfl) ?_
          refine .on rfl (fun a w hS hI hp => does_var (x_alloc rfl (by kernel_rfl)) (hI.2.2.2.2.2).size) ?_
          exact .nil
        clear hS
        intro at2021 w2022 hS hI hp
        have hBw2022_w := hI.1
        have hBw2022_wL2 := hI.2.1
        have hBw2022_w2007 := hI.2.2.1
        have hBw2022_w2008 := hI.2.2.2.1
        have hBw2022_w2013 := hI.2.2.2.2.1
        have hBw2022_w2018 := hI.2.2.2.2.2
        have hv86 : sl _ 86 = .agg #[.int .i64 t2020_1, .string t2020_2] := hp 4 (by decide)
        have hv87 : sl _ 87 = .bool t2020_3 := hp 5 (by decide)
        obtain ⟨g2023, hv21, hgeg2023, hbxg2023⟩ := (show IsB _ 26 _ (sl _ 21) _ from hp 6 (by decide))
        have hne2024 : g2023 ≠ g2006 := Nat.ne_of_gt (Nat.lt_of_lt_of_le (blk_lt ((hBw2018_w2007.block g2006 (blk_lt hbxw2007)).trans hbxw2007)) hgeg2023)
        have hBw2022_w2022 := Below.refl w2022.heap.size w2022
        have hS := hS.cons hv86
        have hS := hS.cons hv87
        have hS := hS.cons hv21
        clear hp hI hv86 hv87 hv21
        show wpList _ _ _ [_, _] _ _
        refine list_step rfl (does_storeAll (g := g2023) (cs := #[.int .i64 t2020_1, .string t2020_2]) rfl (hS.get 0 rfl) (hS.get 2 rfl) ((hBw2022_w2022.block g2023 (blk_lt hbxg2023)).trans hbxg2023) (by kernel_rfl) (by kernel_rfl) (by kernel_rfl)) ?_
        rintro vw2025 w2025 ⟨rfl, hbxw2025, hT⟩
        have hBw2025_w := hT.below hBw2022_w (Nat.le_trans (hBw2018_w).size hgeg2023) (hBw2022_w).size
        have hBw2025_wL2 := hT.below hBw2022_wL2 (Nat.le_trans (hBw2018_wL2).size hgeg2023) (hBw2022_wL2).size
        have hBw2025_w2007 := hT.below hBw2022_w2007 (Nat.le_trans (hBw2018_w2007).size hgeg2023) (hBw2022_w2007).size
        have hBw2025_w2008 := hT.below hBw2022_w2008 (Nat.le_trans (hBw2018_w2008).size hgeg2023) (hBw2022_w2008).size
        have hBw2025_w2013 := hT.below hBw2022_w2013 (Nat.le_trans (hBw2018_w2013).size hgeg2023) (hBw2022_w2013).size
        have hBw2025_w2018 := hT.below hBw2022_w2018 hgeg2023 (hBw2022_w2018).size
        have hBw2025_w2025 := Below.refl w2025.heap.size w2025
        clear hT
        refine list_step rfl (R := fun v w' => Below _ _ w' ∧ (VB t2020_3) v w') (does_val (x_assign rfl (hS.get 1 rfl)) rfl) ?_
        rintro vw2026 w2026 ⟨hb, he⟩
        have hBw2026_w := below_step hBw2025_w hb
        have hBw2026_wL2 := below_step hBw2025_wL2 hb
        have hBw2026_w2007 := below_step hBw2025_w2007 hb
        have hBw2026_w2008 := below_step hBw2025_w2008 hb
        have hBw2026_w2013 := below_step hBw2025_w2013 hb
        have hBw2026_w2018 := below_step hBw2025_w2018 hb
        have hBw2026_w2025 := below_step hBw2025_w2025 hb
        have hBw2026_w2026 := Below.refl w2026.heap.size w2026
        obtain rfl : vw2026 = .bool t2020_3 := he
        refine hS.next (v := .bool t2020_3) (d := 22) rfl (by decide) (by rfl) ?_
        clear hS
        intro at2027 hS
        refine wpList_nil ?_
        refine hK2019 _ _ ?_
        (try clear hK2019 K2019)
        refine wp_seq_k (fun K2028 hK2028 => ?_)
        refine reg_seq (N := 173) (bs := [(22, .bool t2020_3), (21, .pointer (some ⟨g2023, 0, none⟩)), (87, .bool t2020_3), (86, .agg #[.int .i64 t2020_1, .string t2020_2]), (20, .int .i64 t2016), (19, .bool t2011_2), (18, .slice A2014 t2011_1.length C2014), (17, .bool t2003_3), (4, .string x2_4), (15, .slice AL2_15 y2_15.length CL2_15)]) (I := fun x => Below w.heap.size w x ∧ Below wL2.heap.size wL2 x ∧ Below w2007.heap.size w2007 x ∧ Below w2008.heap.size w2008 x ∧ Below w2013.heap.size w2013 x ∧ Below w2018.heap.size w2018 x ∧ Below w2025.heap.size w2025 x ∧ Below w2026.heap.size w2026 x) (ps := [IsV (.agg #[.int .i64 t2020_1, .string t2020_2]), IsV (.tuple #[.int .i64 t2029_1, .string t2029_2, .bool t2029_3]), IsV (.tuple #[.int .i64 t2029_1, .string t2029_2, .bool t2029_3]), VI t2029_1, IsV (.string t2029_2), VB t2029_3, VI t2029_1, IsV (.string t2029_2), VB t2029_3]) (by kernel_rfl) ?_ ?_ rfl hS ⟨hBw2026_w, hBw2026_wL2, hBw2026_w2007, hBw2026_w2008, hBw2026_w2013, hBw2026_w2018, hBw2026_w2025, hBw2026_w2026⟩ ?_ ?_
        · exact fun x y hI hb => ⟨below_step hI.1 hb, below_step hI.2.1 hb, below_step hI.2.2.1 hb, below_step hI.2.2.2.1 hb, below_step hI.2.2.2.2.1 hb, below_step hI.2.2.2.2.2.1 hb, below_step hI.2.2.2.2.2.2.1 hb, below_step hI.2.2.2.2.2.2.2 hb⟩
        · exact .v (.v (.v (.v (.v (.v (.v (.v (.v (.nil)))))))))
        · refine .on rfl (fun a w hS hI hp => does_loadrow rfl (hS.get 1 rfl) (((hI.2.2.2.2.2.2.1).block g2023 (blk_lt hbxw2025)).trans hbxw2025) Try.underlying26 rfl (by kernel_rfl) rfl) ?_
          refine .on rfl (fun a w hS hI hp => does_call (by kernel_rfl) (ar1 (hp.V 0 rfl rfl)) ((tlv_ManageOf.calls k t2020_1 t2020_2 t2029_1 t2029_2 t2029_3 _  At2029).mono fun _ _ h => ⟨_, h.1, h.2, rfl⟩)) ?_
          refine .mv 1 rfl rfl rfl rfl ?_
          iterate 3 refine .on rfl (fun a w hS hI hp => does_val (x_extract rfl (hp.V 2 rfl rfl) rfl) rfl) ?_
          refine .asg 3 rfl rfl rfl rfl ?_
          refine .asg 4 rfl rfl rfl rfl ?_
          refine .asg 5 rfl rfl rfl rfl ?_
          exact .nil
        clear hS
        intro at2030 w2031 hS hI hp
        have hBw2031_w := hI.1
        have hBw2031_wL2 := hI.2.1
        have hBw2031_w2007 := hI.2.2.1
        have hBw2031_w2008 := hI.2.2.2.1
        have hBw2031_w2013 := hI.2.2.2.2.1
        have hBw2031_w2018 := hI.2.2.2.2.2.1
        have hBw2031_w2025 := hI.2.2.2.2.2.2.1
        have hBw2031_w2026 := hI.2.2.2.2.2.2.2
        replace hS := ((((((((hS.nil).cons (hS.get 9 rfl)).cons (hS.get 8 rfl)).cons (hS.get 7 rfl)).cons (hS.get 6 rfl)).cons (hS.get 5 rfl)).cons (hS.get 4 rfl)).cons (hS.get 1 rfl)).cons (hS.get 0 rfl)
        have hv23 : sl _ 23 = .int .i64 t2029_1 := hp 6 (by decide)
        have hv24 : sl _ 24 = .string t2029_2 := hp 7 (by decide)
        have hv25 : sl _ 25 = .bool t2029_3 := hp 8 (by decide)
        have hBw2031_w2031 := Below.refl w2031.heap.size w2031
        have hS := hS.cons hv23
        have hS := hS.cons hv24
        have hS := hS.cons hv25
        clear hp hI hv23 hv24 hv25
        refine hK2028 _ _ ?_
        (try clear hK2028 K2028)
        refine wp_seq_k (fun K2032 hK2032 => ?_)
        refine reg_seq_tail 6 (N := 173) (bs := [(25, .bool t2029_3), (24, .string t2029_2), (23, .int .i64 t2029_1), (22, .bool t2020_3), (21, .pointer (some ⟨g2023, 0, none⟩)), (20, .int .i64 t2016), (19, .bool t2011_2), (18, .slice A2014 t2011_1.length C2014), (17, .bool t2003_3), (4, .string x2_4), (15, .slice AL2_15 y2_15.length CL2_15)]) (I := fun x => Below w.heap.size w x ∧ Below wL2.heap.size wL2 x ∧ Below w2007.heap.size w2007 x ∧ Below w2008.heap.size w2008 x ∧ Below w2013.heap.size w2013 x ∧ Below w2018.heap.size w2018 x ∧ Below w2025.heap.size w2025 x ∧ Below w2031.heap.size w2031 x) (ps := [VI t2016, IsV (.tuple #[.agg #[.int .i64 t2033_1, .string t2033_2], .bool t2033_3]), IsV (.tuple #[.agg #[.int .i64 t2033_1, .string t2033_2], .bool t2033_3]), IsV (.agg #[.int .i64 t2033_1, .string t2033_2]), VB t2033_3, IsB #[.int .i64 0, .string (⟨#[]⟩ : ByteArray)] 26 w2031.heap.size]) (by kernel_rfl) ?_ ?_ rfl hS ⟨hBw2031_w, hBw2031_wL2, hBw2031_w2007, hBw2031_w2008, hBw2031_w2013, hBw2031_w2018, hBw2031_w2025, hBw2031_w2031⟩ ?_ ?_
        · exact fun x y hI hb => ⟨below_step hI.1 hb, below_step hI.2.1 hb, below_step hI.2.2.1 hb, below_step hI.2.2.2.1 hb, below_step hI.2.2.2.2.1 hb, below_step hI.2.2.2.2.2.1 hb, below_step hI.2.2.2.2.2.2.1 hb, below_step hI.2.2.2.2.2.2.2 hb⟩
        · exact .v (.v (.v (.v (.v (.cons (Stays.b _ _ _) (.nil))))))
        · refine .ms 5 rfl rfl rfl ?_
          refine .on rfl (fun a w hS hI hp => does_call (by kernel_rfl) (ar2 (hp.V 0 rfl rfl) (rfl)) ((tlv_Fault.calls k t2016 7 t2033_1 t2033_2 t2033_3 _  At2033).mono fun _ _ h => ⟨_, h.1, h.2, rfl⟩)) ?_
          refine .mv 1 rfl rfl rfl rfl ?_
          iterate 2 refine .on rfl (fun a w hS hI hp => does_val (x_extract rfl (hp.V 2 rfl rfl) rfl) rfl) ?_
          refine .on rfl (fun a w hS hI hp => does_var (x_alloc rfl (by kernel_rfl)) (hI.2.2.2.2.2.2.2).size) ?_
          exact .nil
        clear hS
        intro at2034 w2035 hS hI hp
        have hBw2035_w := hI.1
        have hBw2035_wL2 := hI.2.1
        have hBw2035_w2007 := hI.2.2.1
        have hBw2035_w2008 := hI.2.2.2.1
        have hBw2035_w2013 := hI.2.2.2.2.1
        have hBw2035_w2018 := hI.2.2.2.2.2.1
        have hBw2035_w2025 := hI.2.2.2.2.2.2.1
        have hBw2035_w2031 := hI.2.2.2.2.2.2.2
        have hv97 : sl _ 97 = .agg #[.int .i64 t2033_1, .string t2033_2] := hp 3 (by decide)
        have hv98 : sl _ 98 = .bool t2033_3 := hp 4 (by decide)
        obtain ⟨g2036, hv26, hgeg2036, hbxg2036⟩ := (show IsB _ 26 _ (sl _ 26) _ from hp 5 (by decide))
        have hne2037 : g2036 ≠ g2006 := Nat.ne_of_gt (Nat.lt_of_lt_of_le (blk_lt ((hBw2031_w2007.block g2006 (blk_lt hbxw2007)).trans hbxw2007)) hgeg2036)
        have hne2038 : g2036 ≠ g2023 := Nat.ne_of_gt (Nat.lt_of_lt_of_le (blk_lt ((hBw2031_w2025.block g2023 (blk_lt hbxw2025)).trans hbxw2025)) hgeg2036)
        have hBw2035_w2035 := Below.refl w2035.heap.size w2035
        have hS := hS.cons hv97
        have hS := hS.cons hv98
        have hS := hS.cons hv26
        clear hp hI hv97 hv98 hv26
        show wpList _ _ _ [_, _] _ _
        refine list_step rfl (does_storeAll (g := g2036) (cs := #[.int .i64 t2033_1, .string t2033_2]) rfl (hS.get 0 rfl) (hS.get 2 rfl) ((hBw2035_w2035.block g2036 (blk_lt hbxg2036)).trans hbxg2036) (by kernel_rfl) (by kernel_rfl) (by kernel_rfl)) ?_
        rintro vw2039 w2039 ⟨rfl, hbxw2039, hT⟩
        have hBw2039_w := hT.below hBw2035_w (Nat.le_trans (hBw2031_w).size hgeg2036) (hBw2035_w).size
        have hBw2039_wL2 := hT.below hBw2035_wL2 (Nat.le_trans (hBw2031_wL2).size hgeg2036) (hBw2035_wL2).size
        have hBw2039_w2007 := hT.below hBw2035_w2007 (Nat.le_trans (hBw2031_w2007).size hgeg2036) (hBw2035_w2007).size
        have hBw2039_w2008 := hT.below hBw2035_w2008 (Nat.le_trans (hBw2031_w2008).size hgeg2036) (hBw2035_w2008).size
        have hBw2039_w2013 := hT.below hBw2035_w2013 (Nat.le_trans (hBw2031_w2013).size hgeg2036) (hBw2035_w2013).size
        have hBw2039_w2018 := hT.below hBw2035_w2018 (Nat.le_trans (hBw2031_w2018).size hgeg2036) (hBw2035_w2018).size
        have hBw2039_w2025 := hT.below hBw2035_w2025 (Nat.le_trans (hBw2031_w2025).size hgeg2036) (hBw2035_w2025).size
        have hBw2039_w2031 := hT.below hBw2035_w2031 hgeg2036 (hBw2035_w2031).size
        have hBw2039_w2039 := Below.refl w2039.heap.size w2039
        clear hT
        refine list_step rfl (R := fun v w' => Below _ _ w' ∧ (VB t2033_3) v w') (does_val (x_assign rfl (hS.get 1 rfl)) rfl) ?_
        rintro vw2040 w2040 ⟨hb, he⟩
        have hBw2040_w := below_step hBw2039_w hb
        have hBw2040_wL2 := below_step hBw2039_wL2 hb
        have hBw2040_w2007 := below_step hBw2039_w2007 hb
        have hBw2040_w2008 := below_step hBw2039_w2008 hb
        have hBw2040_w2013 := below_step hBw2039_w2013 hb
        have hBw2040_w2018 := below_step hBw2039_w2018 hb
        have hBw2040_w2025 := below_step hBw2039_w2025 hb
        have hBw2040_w2031 := below_step hBw2039_w2031 hb
        have hBw2040_w2039 := below_step hBw2039_w2039 hb
        have hBw2040_w2040 := Below.refl w2040.heap.size w2040
        obtain rfl : vw2040 = .bool t2033_3 := he
        refine hS.next (v := .bool t2033_3) (d := 27) rfl (by decide) (by rfl) ?_
        clear hS
        intro at2041 hS
        refine wpList_nil ?_
        refine hK2032 _ _ ?_
        (try clear hK2032 K2032)
        refine wp_seq_k (fun K2042 hK2042 => ?_)
        refine reg_seq (N := 173) (bs := [(27, .bool t2033_3), (26, .pointer (some ⟨g2036, 0, none⟩)), (98, .bool t2033_3), (97, .agg #[.int .i64 t2033_1, .string t2033_2]), (25, .bool t2029_3), (24, .string t2029_2), (23, .int .i64 t2029_1), (22, .bool t2020_3), (21, .pointer (some ⟨g2023, 0, none⟩)), (20, .int .i64 t2016), (19, .bool t2011_2), (18, .slice A2014 t2011_1.length C2014), (17, .bool t2003_3), (4, .string x2_4), (15, .slice AL2_15 y2_15.length CL2_15)]) (I := fun x => Below w.heap.size w x ∧ Below wL2.heap.size wL2 x ∧ Below w2007.heap.size w2007 x ∧ Below w2008.heap.size w2008 x ∧ Below w2013.heap.size w2013 x ∧ Below w2018.heap.size w2018 x ∧ Below w2025.heap.size w2025 x ∧ Below w2031.heap.size w2031 x ∧ Below w2039.heap.size w2039 x ∧ Below w2040.heap.size w2040 x) (ps := [IsV (.agg #[.int .i64 t2033_1, .string t2033_2]), IsV (.tuple #[.int .i64 t2043_1, .int .i64 t2043_2, .bool t2043_3]), IsV (.tuple #[.int .i64 t2043_1, .int .i64 t2043_2, .bool t2043_3]), VI t2043_1, VI t2043_2, VB t2043_3, VI t2043_1, VI t2043_2, VB t2043_3]) (by kernel_rfl) ?_ ?_ rfl hS ⟨hBw2040_w, hBw2040_wL2, hBw2040_w2007, hBw2040_w2008, hBw2040_w2013, hBw2040_w2018, hBw2040_w2025, hBw2040_w2031, hBw2040_w2039, hBw2040_w2040⟩ ?_ ?_
        · exact fun x y hI hb => ⟨below_step hI.1 hb, below_step hI.2.1 hb, below_step hI.2.2.1 hb, below_step hI.2.2.2.1 hb, below_step hI.2.2.2.2.1 hb, below_step hI.2.2.2.2.2.1 hb, below_step hI.2.2.2.2.2.2.1 hb, below_step hI.2.2.2.2.2.2.2.1 hb, below_step hI.2.2.2.2.2.2.2.2.1 hb, below_step hI.2.2.2.2.2.2.2.2.2 hb⟩
        · exact .v (.v (.v (.v (.v (.v (.v (.v (.v (.nil)))))))))
        · refine .on rfl (fun a w hS hI hp => does_loadrow rfl (hS.get 1 rfl) (((hI.2.2.2.2.2.2.2.2.1).block g2036 (blk_lt hbxw2039)).trans hbxw2039) Try.underlying26 rfl (by kernel_rfl) rfl) ?_
          refine .on rfl (fun a w hS hI hp => does_call (by kernel_rfl) (ar1 (hp.V 0 rfl rfl)) ((tlv_FaultOf.calls k t2033_1 t2033_2 t2043_1 t2043_2 t2043_3 _  At2043).mono fun _ _ h => ⟨_, h.1, h.2, rfl⟩)) ?_
          refine .mv 1 rfl rfl rfl rfl ?_
          iterate 3 refine .on rfl (fun a w hS hI hp => does_val (x_extract rfl (hp.V 2 rfl rfl) rfl) rfl) ?_
          refine .asg 3 rfl rfl rfl rfl ?_
          refine .asg 4 rfl rfl rfl rfl ?_
          refine .asg 5 rfl rfl rfl rfl ?_
          exact .nil
        clear hS
        intro at2044 w2045 hS hI hp
        have hBw2045_w := hI.1
        have hBw2045_wL2 := hI.2.1
        have hBw2045_w2007 := hI.2.2.1
        have hBw2045_w2008 := hI.2.2.2.1
        have hBw2045_w2013 := hI.2.2.2.2.1
        have hBw2045_w2018 := hI.2.2.2.2.2.1
        have hBw2045_w2025 := hI.2.2.2.2.2.2.1
        have hBw2045_w2031 := hI.2.2.2.2.2.2.2.1
        have hBw2045_w2039 := hI.2.2.2.2.2.2.2.2.1
        have hBw2045_w2040 := hI.2.2.2.2.2.2.2.2.2
        replace hS := ((((((((((((hS.nil).cons (hS.get 14 rfl)).cons (hS.get 13 rfl)).cons (hS.get 12 rfl)).cons (hS.get 11 rfl)).cons (hS.get 10 rfl)).cons (hS.get 9 rfl)).cons (hS.get 8 rfl)).cons (hS.get 7 rfl)).cons (hS.get 6 rfl)).cons (hS.get 5 rfl)).cons (hS.get 4 rfl)).cons (hS.get 0 rfl)
        have hv28 : sl _ 28 = .int .i64 t2043_1 := hp 6 (by decide)
        have hv29 : sl _ 29 = .int .i64 t2043_2 := hp 7 (by decide)
        have hv30 : sl _ 30 = .bool t2043_3 := hp 8 (by decide)
        have hBw2045_w2045 := Below.refl w2045.heap.size w2045
        have hS := hS.cons hv28
        have hS := hS.cons hv29
        have hS := hS.cons hv30
        clear hp hI hv28 hv29 hv30
        refine hK2042 _ _ ?_
        (try clear hK2042 K2042)
        refine wp_seq_k (fun K2046 hK2046 => ?_)
        refine wp_seq_k (fun K2047 hK2047 => ?_)
        refine reg_seq (N := 173) (bs := [(30, .bool t2043_3), (29, .int .i64 t2043_2), (28, .int .i64 t2043_1), (27, .bool t2033_3), (25, .bool t2029_3), (24, .string t2029_2), (23, .int .i64 t2029_1), (22, .bool t2020_3), (21, .pointer (some ⟨g2023, 0, none⟩)), (20, .int .i64 t2016), (19, .bool t2011_2), (18, .slice A2014 t2011_1.length C2014), (17, .bool t2003_3), (4, .string x2_4), (15, .slice AL2_15 y2_15.length CL2_15)]) (I := fun x => Below w.heap.size w x ∧ Below wL2.heap.size wL2 x ∧ Below w2007.heap.size w2007 x ∧ Below w2008.heap.size w2008 x ∧ Below w2013.heap.size w2013 x ∧ Below w2018.heap.size w2018 x ∧ Below w2025.heap.size w2025 x ∧ Below w2031.heap.size w2031 x ∧ Below w2039.heap.size w2039 x ∧ Below w2045.heap.size w2045 x) (ps := [VB t2003_3, VB (!t2003_3), VB (!t2003_3), VB t2011_2, VB (!t2011_2), VB (!t2011_2), VB (!t2011_2), VB t2020_3, VB (!t2020_3), VB (!t2020_3), VB (!t2020_3), VB t2029_3, VB (!t2029_3), VB (!t2029_3), VB (!t2029_3), VB t2033_3, VB (!t2033_3), VB (!t2033_3), VB (!t2033_3), VB t2043_3, VB (!t2043_3), VB (!t2043_3), VB (!t2043_3), IsV (.slice A2014 t2011_1.length C2014), IsV (.slice AL2_15 y2_15.length CL2_15), VB t2048, VB (!t2048), VB (!t2048), VB (!t2048), VI t2029_1, VI t2016, VB (!decide (t2029_1 = t2016)), VB (!decide (t2029_1 = t2016)), VB (!decide (t2029_1 = t2016)), VI t2043_1, VI t2016, VB (!decide (t2043_1 = t2016)), VB (!decide (t2043_1 = t2016)), VB (!decide (t2043_1 = t2016)), VI t2043_2, VB (!decide (t2043_2 = 7)), VB (!decide (t2043_2 = 7))]) (by kernel_rfl) ?_ ?_ rfl hS ⟨hBw2045_w, hBw2045_wL2, hBw2045_w2007, hBw2045_w2008, hBw2045_w2013, hBw2045_w2018, hBw2045_w2025, hBw2045_w2031, hBw2045_w2039, hBw2045_w2045⟩ ?_ ?_
        · exact fun x y hI hb => ⟨below_step hI.1 hb, below_step hI.2.1 hb, below_step hI.2.2.1 hb, below_step hI.2.2.2.1 hb, below_step hI.2.2.2.2.1 hb, below_step hI.2.2.2.2.2.1 hb, below_step hI.2.2.2.2.2.2.1 hb, below_step hI.2.2.2.2.2.2.2.1 hb, below_step hI.2.2.2.2.2.2.2.2.1 hb, below_step hI.2.2.2.2.2.2.2.2.2 hb⟩
        · exact .v (.v (.v (.v (.v (.v (.v (.v (.v (.v (.v (.v (.v (.v (.v (.v (.v (.v (.v (.v (.v (.v (.v (.v (.v (.v (.v (.v (.v (.v (.v (.v (.v (.v (.v (.v (.v (.v (.v (.v (.v (.v (.nil))))))))))))))))))))))))))))))))))))))))))
        · refine .ms 12 rfl rfl rfl ?_
          refine .on rfl (fun a w hS hI hp => does_val (x_not rfl (hp.V 0 rfl rfl)) rfl) ?_
          refine .mv 1 rfl rfl rfl rfl ?_
          refine .oy 2 107 rfl rfl rfl rfl rfl ((congrArg (!·) c3)) (fun a w hS hI hp => does_val (x_move rfl (hS.get 10 rfl)) rfl) ?_
          refine .oy 2 107 rfl rfl rfl rfl rfl ((congrArg (!·) c3)) (fun a w hS hI hp => does_val (x_not rfl (hp.V 3 rfl rfl)) rfl) ?_
          refine .on rfl (fun a w hS hI hp => does_val (x_pickF rfl ((hp.V 2 rfl rfl).trans (bF (congrArg (!·) c3))) (hp.V 4 rfl rfl)) rfl) ?_
          refine .mv 5 rfl rfl rfl rfl ?_
          refine .oy 6 111 rfl rfl rfl rfl rfl ((congrArg (!·) c4)) (fun a w hS hI hp => does_val (x_move rfl (hS.get 7 rfl)) rfl) ?_
          refine .oy 6 111 rfl rfl rfl rfl rfl ((congrArg (!·) c4)) (fun a w hS hI hp => does_val (x_not rfl (hp.V 7 rfl rfl)) rfl) ?_
          refine .on rfl (fun a w hS hI hp => does_val (x_pickF rfl ((hp.V 6 rfl rfl).trans (bF (congrArg (!·) c4))) (hp.V 8 rfl rfl)) rfl) ?_
          refine .mv 9 rfl rfl rfl rfl ?_
          refine .oy 10 115 rfl rfl rfl rfl rfl ((congrArg (!·) c5)) (fun a w hS hI hp => does_val (x_move rfl (hS.get 4 rfl)) rfl) ?_
          refine .oy 10 115 rfl rfl rfl rfl rfl ((congrArg (!·) c5)) (fun a w hS hI hp => does_val (x_not rfl (hp.V 11 rfl rfl)) rfl) ?_
          refine .on rfl (fun a w hS hI hp => does_val (x_pickF rfl ((hp.V 10 rfl rfl).trans (bF (congrArg (!·) c5))) (hp.V 12 rfl rfl)) rfl) ?_
          refine .mv 13 rfl rfl rfl rfl ?_
          refine .oy 14 119 rfl rfl rfl rfl rfl ((congrArg (!·) c6)) (fun a w hS hI hp => does_val (x_move rfl (hS.get 3 rfl)) rfl) ?_
          refine .oy 14 119 rfl rfl rfl rfl rfl ((congrArg (!·) c6)) (fun a w hS hI hp => does_val (x_not rfl (hp.V 15 rfl rfl)) rfl) ?_
          refine .on rfl (fun a w hS hI hp => does_val (x_pickF rfl ((hp.V 14 rfl rfl).trans (bF (congrArg (!·) c6))) (hp.V 16 rfl rfl)) rfl) ?_
          refine .mv 17 rfl rfl rfl rfl ?_
          refine .oy 18 123 rfl rfl rfl rfl rfl ((congrArg (!·) c7)) (fun a w hS hI hp => does_val (x_move rfl (hS.get 0 rfl)) rfl) ?_
          refine .oy 18 123 rfl rfl rfl rfl rfl ((congrArg (!·) c7)) (fun a w hS hI hp => does_val (x_not rfl (hp.V 19 rfl rfl)) rfl) ?_
          refine .on rfl (fun a w hS hI hp => does_val (x_pickF rfl ((hp.V 18 rfl rfl).trans (bF (congrArg (!·) c7))) (hp.V 20 rfl rfl)) rfl) ?_
          refine .mv 21 rfl rfl rfl rfl ?_
          refine .oy 22 127 rfl rfl rfl rfl rfl ((congrArg (!·) c8)) (fun a w hS hI hp => does_val (x_move rfl (hS.get 11 rfl)) rfl) ?_
          refine .oy 22 127 rfl rfl rfl rfl rfl ((congrArg (!·) c8)) (fun a w hS hI hp => does_val (x_move rfl (hS.get 14 rfl)) rfl) ?_
          refine .oy 22 127 rfl rfl rfl rfl rfl ((congrArg (!·) c8)) (fun a w hS hI hp => does_call (by kernel_rfl) (ar2 (hp.V 23 rfl rfl) (hp.V 24 rfl rfl)) ((carillonlaw00_SameIds.calls k _ _ t2011_1 _ _ y2_15 t2048 _ (Kd.C_below hc2014 hI.2.2.2.2.1) hl2014 (Kd.C_below hcL2_15 hI.1) hr2_15 At2048).mono fun _ _ h => ⟨_, h.1, h.2.below, rfl⟩)) ?_
          refine .oy 22 127 rfl rfl rfl rfl rfl ((congrArg (!·) c8)) (fun a w hS hI hp => does_val (x_not rfl (hp.V 25 rfl rfl)) rfl) ?_
          refine .on rfl (fun a w hS hI hp => does_val (x_pickF rfl ((hp.V 22 rfl rfl).trans (bF (congrArg (!·) c8))) (hp.V 26 rfl rfl)) rfl) ?_
          refine .mv 27 rfl rfl rfl rfl ?_
          refine .oy 28 133 rfl rfl rfl rfl rfl ((congrArg (!·) c9)) (fun a w hS hI hp => does_val (x_move rfl (hS.get 6 rfl)) rfl) ?_
          refine .oy 28 133 rfl rfl rfl rfl rfl ((congrArg (!·) c9)) (fun a w hS hI hp => does_val (x_move rfl (hS.get 9 rfl)) rfl) ?_
          refine .oy 28 133 rfl rfl rfl rfl rfl ((congrArg (!·) c9)) (fun a w hS hI hp => does_val (x_bin rfl (hp.V 29 rfl rfl) (hp.V 30 rfl rfl) (b_neq _ _ _ _ _ _)) rfl) ?_
          refine .on rfl (fun a w hS hI hp => does_val (x_pickF rfl ((hp.V 28 rfl rfl).trans (bF (congrArg (!·) c9))) (hp.V 31 rfl rfl)) rfl) ?_
          refine .mv 32 rfl rfl rfl rfl ?_
          refine .oy 33 138 rfl rfl rfl rfl rfl ((congrArg (!·) (decide_eq_true c10))) (fun a w hS hI hp => does_val (x_move rfl (hS.get 2 rfl)) rfl) ?_
          refine .oy 33 138 rfl rfl rfl rfl rfl ((congrArg (!·) (decide_eq_true c10))) (fun a w hS hI hp => does_val (x_move rfl (hS.get 9 rfl)) rfl) ?_
          refine .oy 33 138 rfl rfl rfl rfl rfl ((congrArg (!·) (decide_eq_true c10))) (fun a w hS hI hp => does_val (x_bin rfl (hp.V 34 rfl rfl) (hp.V 35 rfl rfl) (b_neq _ _ _ _ _ _)) rfl) ?_
          refine .on rfl (fun a w hS hI hp => does_val (x_pickF rfl ((hp.V 33 rfl rfl).trans (bF (congrArg (!·) (decide_eq_true c10)))) (hp.V 36 rfl rfl)) rfl) ?_
          refine .mv 37 rfl rfl rfl rfl ?_
          refine .oy 38 143 rfl rfl rfl rfl rfl ((congrArg (!·) (decide_eq_true c11))) (fun a w hS hI hp => does_val (x_move rfl (hS.get 1 rfl)) rfl) ?_
          refine .oy 38 143 rfl rfl rfl rfl rfl ((congrArg (!·) (decide_eq_true c11))) (fun a w hS hI hp => does_val (x_bin rfl (hp.V 39 rfl rfl) (rfl) (b_neq _ _ _ _ _ _)) rfl) ?_
          refine .on rfl (fun a w hS hI hp => does_val (x_pickF rfl ((hp.V 38 rfl rfl).trans (bF (congrArg (!·) (decide_eq_true c11)))) (hp.V 40 rfl rfl)) rfl) ?_
          exact .nil
        clear hS
        intro at2049 w2050 hS hI hp
        have hBw2050_w := hI.1
        have hBw2050_wL2 := hI.2.1
        have hBw2050_w2007 := hI.2.2.1
        have hBw2050_w2008 := hI.2.2.2.1
        have hBw2050_w2013 := hI.2.2.2.2.1
        have hBw2050_w2018 := hI.2.2.2.2.2.1
        have hBw2050_w2025 := hI.2.2.2.2.2.2.1
        have hBw2050_w2031 := hI.2.2.2.2.2.2.2.1
        have hBw2050_w2039 := hI.2.2.2.2.2.2.2.2.1
        have hBw2050_w2045 := hI.2.2.2.2.2.2.2.2.2
        replace hS := (((hS.nil).cons (hS.get 13 rfl)).cons (hS.get 8 rfl)).cons (hS.get 5 rfl)
        have hv146 : sl _ 146 = .bool (!decide (t2043_2 = 7)) := hp 41 (by decide)
        have hBw2050_w2050 := Below.refl w2050.heap.size w2050
        have hS := hS.cons hv146
        clear hp hI hv146
        refine hK2047 _ _ ?_
        (try clear hK2047 K2047)
        refine wp_cond_false ((hS.get 0 rfl).trans (bF (congrArg (!·) (decide_eq_true c12)))) ?_
        refine wp_skip ?_
        refine hK2046 _ _ ?_
        (try clear hK2046 K2046)
        refine wp_seq_k (fun K2051 hK2051 => ?_)
        refine reg_seq (N := 173) (bs := [(146, .bool (!decide (t2043_2 = 7))), (24, .string t2029_2), (21, .pointer (some ⟨g2023, 0, none⟩)), (4, .string x2_4)]) (I := fun x => Below w.heap.size w x ∧ Below wL2.heap.size wL2 x ∧ Below w2007.heap.size w2007 x ∧ Below w2018.heap.size w2018 x ∧ Below w2025.heap.size w2025 x ∧ Below w2031.heap.size w2031 x ∧ Below w2039.heap.size w2039 x ∧ Below w2050.heap.size w2050 x) (ps := [IsV (.string t2029_2), IsV (.string x2_4), VB (t2029_2.toList == x2_4.toList), VB (t2029_2.toList == x2_4.toList), VU, VU, VU, VU, VU, VU, VU, VU, VU, VU, VB true, VB true, IsV (.agg #[.int .i64 t2020_1, .string t2020_2]), VB t2052, VB t2052, VB t2052, IsV (.agg #[.int .i64 t2020_1, .string t2020_2]), VB t2053, VB t2053, VB t2053, VB t2054, VB t2054, VB t2054]) (by kernel_rfl) ?_ ?_ rfl hS ⟨hBw2050_w, hBw2050_wL2, hBw2050_w2007, hBw2050_w2018, hBw2050_w2025, hBw2050_w2031, hBw2050_w2039, hBw2050_w2050⟩ ?_ ?_
        · exact fun x y hI hb => ⟨below_step hI.1 hb, below_step hI.2.1 hb, below_step hI.2.2.1 hb, below_step hI.2.2.2.1 hb, below_step hI.2.2.2.2.1 hb, below_step hI.2.2.2.2.2.1 hb, below_step hI.2.2.2.2.2.2.1 hb, below_step hI.2.2.2.2.2.2.2 hb⟩
        · exact .v (.v (.v (.v (.v (.v (.v (.v (.v (.v (.v (.v (.v (.v (.v (.v (.v (.v (.v (.v (.v (.v (.v (.v (.v (.v (.v (.nil)))))))))))))))))))))))))))
        · refine .ms 1 rfl rfl rfl ?_
          refine .ms 3 rfl rfl rfl ?_
          refine .on rfl (fun a w hS hI hp => does_val (x_bin rfl (hp.V 0 rfl rfl) (hp.V 1 rfl rfl) (b_eqs _ _ _ _ _)) rfl) ?_
          refine .mv 2 rfl rfl rfl rfl ?_
          iterate 5 refine .sn 3 150 rfl rfl rfl rfl rfl c13 ?_
          iterate 4 refine .of (fun a w hS hI hp => ok_u (d := 155) hS rfl rfl rfl (hp.V 8 rfl rfl) rfl) ?_
          refine .sn 3 150 rfl rfl rfl rfl rfl c13 ?_
          refine .on rfl (fun a w hS hI hp => does_val (x_pickT rfl ((hp.V 3 rfl rfl).trans (bT c13)) (rfl)) rfl) ?_
          refine .mv 14 rfl rfl rfl rfl ?_
          refine .oy 15 162 rfl rfl rfl rfl rfl rfl (fun a w hS hI hp => does_loadrow rfl (hS.get 2 rfl) (((hI.2.2.2.2.1).block g2023 (blk_lt hbxw2025)).trans hbxw2025) Try.underlying26 rfl (by kernel_rfl) rfl) ?_
          refine .oy 15 162 rfl rfl rfl rfl rfl rfl (fun a w hS hI hp => does_call (by kernel_rfl) (ar1 (hp.V 16 rfl rfl)) ((tlv_Check.calls t2020_1 t2020_2 t2052 _  At2052).mono fun _ _ h => ⟨_, h.1, h.2, rfl⟩)) ?_
          refine .pt 15 17 rfl rfl rfl rfl rfl rfl rfl ?_
          refine .mv 18 rfl rfl rfl rfl ?_
          refine .oy 19 166 rfl rfl rfl rfl rfl c14 (fun a w hS hI hp => does_loadrow rfl (hS.get 2 rfl) (((hI.2.2.2.2.1).block g2023 (blk_lt hbxw2025)).trans hbxw2025) Try.underlying26 rfl (by kernel_rfl) rfl) ?_
          refine .oy 19 166 rfl rfl rfl rfl rfl c14 (fun a w hS hI hp => does_call (by kernel_rfl) (ar1 (hp.V 20 rfl rfl)) ((tlv_Known.calls t2020_1 t2020_2 t2053 _  At2053).mono fun _ _ h => ⟨_, h.1, h.2, rfl⟩)) ?_
          refine .pt 19 21 rfl rfl rfl rfl c14 rfl rfl ?_
          refine .mv 22 rfl rfl rfl rfl ?_
          refine .oy 23 170 rfl rfl rfl rfl rfl c15 (fun a w hS hI hp => does_call (by kernel_rfl) rfl ((carillonlaw08_awake.calls k  t2054 _  At2054).mono fun _ _ h => ⟨_, h.1, h.2, rfl⟩)) ?_
          refine .pt 23 24 rfl rfl rfl rfl c15 rfl rfl ?_
          refine .asg 25 rfl rfl rfl rfl ?_
          exact .nil
        clear hS
        intro at2055 w2056 hS hI hp
        have hBw2056_w := hI.1
        have hBw2056_wL2 := hI.2.1
        have hBw2056_w2007 := hI.2.2.1
        have hBw2056_w2018 := hI.2.2.2.1
        have hBw2056_w2025 := hI.2.2.2.2.1
        have hBw2056_w2031 := hI.2.2.2.2.2.1
        have hBw2056_w2039 := hI.2.2.2.2.2.2.1
        have hBw2056_w2050 := hI.2.2.2.2.2.2.2
        replace hS := hS.nil
        have hv10 : sl _ 10 = .bool t2054 := hp 26 (by decide)
        have hBw2056_w2056 := Below.refl w2056.heap.size w2056
        have hS := hS.cons hv10
        clear hp hI hv10
        refine hK2051 _ _ ?_
        (try clear hK2051 K2051)
        refine wp_ret ?_
        (try simp only [Exit.then, Exit.inBlock, Exit.jump, Exit.noGoto])
        exact bodyPost_ret (v := .bool true) (by rw [results_tmp rfl]; exact congrArg (Result.ok · _) ((hS.get 0 rfl).trans (congrArg Value.bool hret))) hS.nodef ⟨rfl, hBw2056_w⟩
      rw [if_neg c13] at H
      by_cases c14 : x2_4.size + (⟨#[0]⟩ : ByteArray).size ≤ 9223372036854775807
      rotate_left
      · rw [if_neg c14] at H
        exact absurd H (by simp)
      rw [if_pos c14] at H
      by_cases c15 : (t2029_2.toList == (x2_4 ++ (⟨#[0]⟩ : ByteArray)).toList) = true
      rotate_left
      · rw [if_neg c15] at H
        exact absurd H (by simp)
      rw [if_pos c15] at H
      by_cases c16 : (Int.tmod (x2_4.size : Int) 2) = 1
      rotate_left
      · rw [if_neg c16] at H
        exact absurd H (by simp)
      rw [if_pos c16] at H
      obtain ⟨t2052, At2052, H⟩ := Option.bind_eq_some_iff.mp H
      by_cases c17 : t2052 = true
      rotate_left
      · rw [if_neg c17] at H
        exact absurd H (by simp)
      rw [if_pos c17] at H
      obtain ⟨t2053, At2053, H⟩ := Option.bind_eq_some_iff.mp H
      by_cases c18 : t2053 = true
      rotate_left
      · rw [if_neg c18] at H
        exact absurd H (by simp)
      rw [if_pos c18] at H
      obtain ⟨t2054, At2054, H⟩ := Option.bind_eq_some_iff.mp H
      have hret := Option.some.inj H
      clear H
      have hBwL2_wL2 := Below.refl wL2.heap.size wL2
      refine hK1004 _ _ ?_
      (try clear hK1004 K1004)
      refine wp_seq_k (fun K2001 hK2001 => ?_)
      refine reg_seq_tail 7 (N := 173) (bs := [(3, .int .i64 x2_3), (4, .string x2_4), (15, .slice AL2_15 y2_15.length CL2_15)]) (I := fun x => Below w.heap.size w x ∧ Below wL2.heap.size wL2 x) (ps := [IsV (.slice AL2_15 y2_15.length CL2_15), IsR (Kd.int .u64) 58 wL2.heap.size t2002, IsV (.tuple #[.agg #[.int .i64 t2003_1, .string t2003_2], .bool t2003_3]), IsV (.tuple #[.agg #[.int .i64 t2003_1, .string t2003_2], .bool t2003_3]), IsV (.agg #[.int .i64 t2003_1, .string t2003_2]), VB t2003_3, IsB #[.int .i64 0, .string (⟨#[]⟩ : ByteArray)] 26 wL2.heap.size]) (by kernel_rfl) ?_ ?_ rfl hS ⟨hBwL2_w, hBwL2_wL2⟩ ?_ ?_
      · exact fun x y hI hb => ⟨below_step hI.1 hb, below_step hI.2 hb⟩
      · exact .v (.cons (Stays.r _ _ _ _) (.v (.v (.v (.v (.cons (Stays.b _ _ _) (.nil)))))))
      · refine .ms 2 rfl rfl rfl ?_
        refine .on rfl (fun a w hS hI hp => does_call (by kernel_rfl) (ar1 (hp.V 0 rfl rfl)) ((carillonlaw00_Ids.calls _ _ y2_15 t2002 _ (Kd.C_below hcL2_15 hI.1) hr2_15 At2002).mono fun _ _ h => h.elim fun v0 h => ⟨v0, h.1, h.2.2, Kd.R_lower h.2.1 hI.2.size⟩)) ?_
        refine .on rfl (fun a w hS hI hp => (IsC.of_r (hp.V 1 rfl rfl)).elim fun A_ h_ => h_.elim fun c_ h_ => h_.elim fun hv_ h_ => h_.elim fun hl_ hc_ => does_call (by kernel_rfl) (ar1 (hv_)) ((tlv_Path.calls k _ _ t2002 t2003_1 t2003_2 t2003_3 _ hc_ hl_ At2003).mono fun _ _ h => ⟨_, h.1, h.2, rfl⟩)) ?_
        refine .mv 2 rfl rfl rfl rfl ?_
        iterate 2 refine .on rfl (fun a w hS hI hp => does_val (x_extract rfl (hp.V 3 rfl rfl) rfl) rfl) ?_
        refine .on rfl (fun a w hS hI hp => does_var (x_alloc rfl (by kernel_rfl)) (hI.2).size) ?_
        exact .nil
      clear hS
      intro at2004 w2005 hS hI hp
      have hBw2005_w := hI.1
      have hBw2005_wL2 := hI.2
      have hv73 : sl _ 73 = .agg #[.int .i64 t2003_1, .string t2003_2] := hp 4 (by decide)
      have hv74 : sl _ 74 = .bool t2003_3 := hp 5 (by decide)
      obtain ⟨g2006, hv16, hgeg2006, hbxg2006⟩ := (show IsB _ 26 _ (sl _ 16) _ from hp 6 (by decide))
      have hBw2005_w2005 := Below.refl w2005.heap.size w2005
      have hS := hS.cons hv73
      have hS := hS.cons hv74
      have hS := hS.cons hv16
      clear hp hI hv73 hv74 hv16
      show wpList _ _ _ [_, _] _ _
      refine list_step rfl (does_storeAll (g := g2006) (cs := #[.int .i64 t2003_1, .string t2003_2]) rfl (hS.get 0 rfl) (hS.get 2 rfl) ((hBw2005_w2005.block g2006 (blk_lt hbxg2006)).trans hbxg2006) (by kernel_rfl) (by kernel_rfl) (by kernel_rfl)) ?_
      rintro vw2007 w2007 ⟨rfl, hbxw2007, hT⟩
      have hBw2007_w := hT.below hBw2005_w (Nat.le_trans (hBwL2_w).size hgeg2006) (hBw2005_w).size
      have hBw2007_wL2 := hT.below hBw2005_wL2 hgeg2006 (hBw2005_wL2).size
      have hBw2007_w2007 := Below.refl w2007.heap.size w2007
      clear hT
      refine list_step rfl (R := fun v w' => Below _ _ w' ∧ (VB t2003_3) v w') (does_val (x_assign rfl (hS.get 1 rfl)) rfl) ?_
      rintro vw2008 w2008 ⟨hb, he⟩
      have hBw2008_w := below_step hBw2007_w hb
      have hBw2008_wL2 := below_step hBw2007_wL2 hb
      have hBw2008_w2007 := below_step hBw2007_w2007 hb
      have hBw2008_w2008 := Below.refl w2008.heap.size w2008
      obtain rfl : vw2008 = .bool t2003_3 := he
      refine hS.next (v := .bool t2003_3) (d := 17) rfl (by decide) (by rfl) ?_
      clear hS
      intro at2009 hS
      refine wpList_nil ?_
      refine hK2001 _ _ ?_
      (try clear hK2001 K2001)
      refine wp_seq_k (fun K2010 hK2010 => ?_)
      refine reg_seq (N := 173) (bs := [(17, .bool t2003_3), (16, .pointer (some ⟨g2006, 0, none⟩)), (74, .bool t2003_3), (73, .agg #[.int .i64 t2003_1, .string t2003_2]), (3, .int .i64 x2_3), (4, .string x2_4), (15, .slice AL2_15 y2_15.length CL2_15)]) (I := fun x => Below w.heap.size w x ∧ Below wL2.heap.size wL2 x ∧ Below w2007.heap.size w2007 x ∧ Below w2008.heap.size w2008 x) (ps := [IsV (.agg #[.int .i64 t2003_1, .string t2003_2]), IsT (fun v0_ => #[v0_, .bool t2011_2]) (IsR (Kd.int .u64) 58 w2008.heap.size t2011_1), IsT (fun v0_ => #[v0_, .bool t2011_2]) (IsR (Kd.int .u64) 58 w2008.heap.size t2011_1), IsR (Kd.int .u64) 58 w2008.heap.size t2011_1, VB t2011_2, IsR (Kd.int .u64) 58 w2008.heap.size t2011_1, VB t2011_2]) (by kernel_rfl) ?_ ?_ rfl hS ⟨hBw2008_w, hBw2008_wL2, hBw2008_w2007, hBw2008_w2008⟩ ?_ ?_
      · exact fun x y hI hb => ⟨below_step hI.1 hb, below_step hI.2.1 hb, below_step hI.2.2.1 hb, below_step hI.2.2.2 hb⟩
      · exact .v (.cons (Stays.t _ (Stays.r _ _ _ _)) (.cons (Stays.t _ (Stays.r _ _ _ _)) (.cons (Stays.r _ _ _ _) (.v (.cons (Stays.r _ _ _ _) (.v (.nil)))))))
      · refine .on rfl (fun a w hS hI hp => does_loadrow rfl (hS.get 1 rfl) (((hI.2.2.1).block g2006 (blk_lt hbxw2007)).trans hbxw2007) Try.underlying26 rfl (by kernel_rfl) rfl) ?_
        refine .on rfl (fun a w hS hI hp => does_call (by kernel_rfl) (ar1 (hp.V 0 rfl rfl)) ((tlv_PathOf.calls k t2003_1 t2003_2 t2011_1 t2011_2 _  At2011).mono fun _ _ h => h.elim fun v0 h => ⟨_, h.1, h.2.2, v0, rfl, Kd.R_lower h.2.1 hI.2.2.2.size⟩)) ?_
        refine .on rfl (fun a w hS hI hp => does_val (x_move rfl rfl) (hp.V 1 rfl rfl)) ?_
        refine .on rfl (fun a w hS hI hp => (hp.V 2 rfl rfl).elim fun v0 h0 => does_val (x_extract rfl h0.1 rfl) h0.2) ?_
        refine .on rfl (fun a w hS hI hp => (hp.V 2 rfl rfl).elim fun v0 h0 => does_val (x_extract rfl h0.1 rfl) rfl) ?_
        refine .on rfl (fun a w hS hI hp => does_val (x_assign rfl rfl) (hp.V 3 rfl rfl)) ?_
        refine .asg 4 rfl rfl rfl rfl ?_
        exact .nil
      clear hS
      intro at2012 w2013 hS hI hp
      have hBw2013_w := hI.1
      have hBw2013_wL2 := hI.2.1
      have hBw2013_w2007 := hI.2.2.1
      have hBw2013_w2008 := hI.2.2.2
      replace hS := ((((hS.nil).cons (hS.get 6 rfl)).cons (hS.get 5 rfl)).cons (hS.get 4 rfl)).cons (hS.get 0 rfl)
      obtain ⟨A2014, C2014, hv18, hl2014, hc2014⟩ := Kd.R_reads (show Kd.R (Kd.int .u64) 58 w2013 w2008.heap.size (fun _ => True) (sl _ 18) t2011_1 from hp 5 (by decide))
      have ho2014 : Kd.R (Kd.int .u64) 58 w2013 w2008.heap.size (fun _ => True) (.slice A2014 t2011_1.length C2014) t2011_1 := hv18 ▸ (hp 5 (by decide))
      have hv19 : sl _ 19 = .bool t2011_2 := hp 6 (by decide)
      have hBw2013_w2013 := Below.refl w2013.heap.size w2013
      have hS := hS.cons hv18
      have hS := hS.cons hv19
      clear hp hI hv18 hv19
      refine hK2010 _ _ ?_
      (try clear hK2010 K2010)
      refine wp_seq_k (fun K2015 hK2015 => ?_)
      refine reg_seq (N := 173) (bs := [(19, .bool t2011_2), (18, .slice A2014 t2011_1.length C2014), (17, .bool t2003_3), (3, .int .i64 x2_3), (4, .string x2_4), (15, .slice AL2_15 y2_15.length CL2_15)]) (I := fun x => Below w.heap.size w x ∧ Below wL2.heap.size wL2 x ∧ Below w2007.heap.size w2007 x ∧ Below w2008.heap.size w2008 x ∧ Below w2013.heap.size w2013 x) (ps := [VI x2_3, VI t2016, VI t2016]) (by kernel_rfl) ?_ ?_ rfl hS ⟨hBw2013_w, hBw2013_wL2, hBw2013_w2007, hBw2013_w2008, hBw2013_w2013⟩ ?_ ?_
      · exact fun x y hI hb => ⟨below_step hI.1 hb, below_step hI.2.1 hb, below_step hI.2.2.1 hb, below_step hI.2.2.2.1 hb, below_step hI.2.2.2.2 hb⟩
      · exact .v (.v (.v (.nil)))
      · refine .ms 3 rfl rfl rfl ?_
        refine .on rfl (fun a w hS hI hp => does_call (by kernel_rfl) (ar2 (hp.V 0 rfl rfl) (rfl)) ((carillonlaw00_Place.calls x2_3 65536 t2016 _  At2016).mono fun _ _ h => ⟨_, h.1, h.2.below, rfl⟩)) ?_
        refine .asg 1 rfl rfl rfl rfl ?_
        exact .nil
      clear hS
      intro at2017 w2018 hS hI hp
      have hBw2018_w := hI.1
      have hBw2018_wL2 := hI.2.1
      have hBw2018_w2007 := hI.2.2.1
      have hBw2018_w2008 := hI.2.2.2.1
      have hBw2018_w2013 := hI.2.2.2.2
      replace hS := (((((hS.nil).cons (hS.get 5 rfl)).cons (hS.get 4 rfl)).cons (hS.get 2 rfl)).cons (hS.get 1 rfl)).cons (hS.get 0 rfl)
      have hv20 : sl _ 20 = .int .i64 t2016 := hp 2 (by decide)
      have hBw2018_w2018 := Below.refl w2018.heap.size w2018
      have hS := hS.cons hv20
      clear hp hI hv20
      refine hK2015 _ _ ?_
      (try clear hK2015 K2015)
      refine wp_seq_k (fun K2019 hK2019 => ?_)
      refine reg_seq_tail 7 (N := 173) (bs := [(20, .int .i64 t2016), (19, .bool t2011_2), (18, .slice A2014 t2011_1.length C2014), (17, .bool t2003_3), (4, .string x2_4), (15, .slice AL2_15 y2_15.length CL2_15)]) (I := fun x => Below w.heap.size w x ∧ Below wL2.heap.size wL2 x ∧ Below w2007.heap.size w2007 x ∧ Below w2008.heap.size w2008 x ∧ Below w2013.heap.size w2013 x ∧ Below w2018.heap.size w2018 x) (ps := [VI t2016, IsV (.string x2_4), IsV (.tuple #[.agg #[.int .i64 t2020_1, .string t2020_2], .bool t2020_3]), IsV (.tuple #[.agg #[.int .i64 t2020_1, .string t2020_2], .bool t2020_3]), IsV (.agg #[.int .i64 t2020_1, .string t2020_2]), VB t2020_3, IsB #[.int .i64 0, .string (⟨#[]⟩ : ByteArray)] 26 w2018.heap.size]) (by kernel_rfl) ?_ ?_ rfl hS ⟨hBw2018_w, hBw2018_wL2, hBw2018_w2007, hBw2018_w2008, hBw2018_w2013, hBw2018_w2018⟩ ?_ ?_
      · exact fun x y hI hb => ⟨below_step hI.1 hb, below_step hI.2.1 hb, below_step hI.2.2.1 hb, below_step hI.2.2.2.1 hb, below_step hI.2.2.2.2.1 hb, below_step hI.2.2.2.2.2 hb⟩
      · exact .v (.v (.v (.v (.v (.v (.cons (Stays.b _ _ _) (.nil)))))))
      · refine .ms 0 rfl rfl rfl ?_
        refine .ms 4 rfl rfl rfl ?_
        refine .on rfl (fun a w hS hI hp => does_call (by kernel_rfl) (ar2 (hp.V 0 rfl rfl) (hp.V 1 rfl rfl)) ((tlv_Manage.calls t2016 x2_4 t2020_1 t2020_2 t2020_3 _  At2020).mono fun _ _ h => ⟨_, h.1, h.2, rfl⟩)) ?_
        refine .mv 2 rfl rfl rfl rfl ?_
        iterate 2 refine .on rfl (fun a w hS hI hp => does_val (x_extract rfl (hp.V 3 rfl rfl) rfl) rfl) ?_
        refine .on rfl (fun a w hS hI hp => does_var (x_alloc rfl (by kernel_rfl)) (hI.2.2.2.2.2).size) ?_
        exact .nil
      clear hS
      intro at2021 w2022 hS hI hp
      have hBw2022_w := hI.1
      have hBw2022_wL2 := hI.2.1
      have hBw2022_w2007 := hI.2.2.1
      have hBw2022_w2008 := hI.2.2.2.1
      have hBw2022_w2013 := hI.2.2.2.2.1
      have hBw2022_w2018 := hI.2.2.2.2.2
      have hv86 : sl _ 86 = .agg #[.int .i64 t2020_1, .string t2020_2] := hp 4 (by decide)
      have hv87 : sl _ 87 = .bool t2020_3 := hp 5 (by decide)
      obtain ⟨g2023, hv21, hgeg2023, hbxg2023⟩ := (show IsB _ 26 _ (sl _ 21) _ from hp 6 (by decide))
      have hne2024 : g2023 ≠ g2006 := Nat.ne_of_gt (Nat.lt_of_lt_of_le (blk_lt ((hBw2018_w2007.block g2006 (blk_lt hbxw2007)).trans hbxw2007)) hgeg2023)
      have hBw2022_w2022 := Below.refl w2022.heap.size w2022
      have hS := hS.cons hv86
      have hS := hS.cons hv87
      have hS := hS.cons hv21
      clear hp hI hv86 hv87 hv21
      show wpList _ _ _ [_, _] _ _
      refine list_step rfl (does_storeAll (g := g2023) (cs := #[.int .i64 t2020_1, .string t2020_2]) rfl (hS.get 0 rfl) (hS.get 2 rfl) ((hBw2022_w2022.block g2023 (blk_lt hbxg2023)).trans hbxg2023) (by kernel_rfl) (by kernel_rfl) (by kernel_rfl)) ?_
      rintro vw2025 w2025 ⟨rfl, hbxw2025, hT⟩
      have hBw2025_w := hT.below hBw2022_w (Nat.le_trans (hBw2018_w).size hgeg2023) (hBw2022_w).size
      have hBw2025_wL2 := hT.below hBw2022_wL2 (Nat.le_trans (hBw2018_wL2).size hgeg2023) (hBw2022_wL2).size
      have hBw2025_w2007 := hT.below hBw2022_w2007 (Nat.le_trans (hBw2018_w2007).size hgeg2023) (hBw2022_w2007).size
      have hBw2025_w2008 := hT.below hBw2022_w2008 (Nat.le_trans (hBw2018_w2008).size hgeg2023) (hBw2022_w2008).size
      have hBw2025_w2013 := hT.below hBw2022_w2013 (Nat.le_trans (hBw2018_w2013).size hgeg2023) (hBw2022_w2013).size
      have hBw2025_w2018 := hT.below hBw2022_w2018 hgeg2023 (hBw2022_w2018).size
      have hBw2025_w2025 := Below.refl w2025.heap.size w2025
      clear hT
      refine list_step rfl (R := fun v w' => Below _ _ w' ∧ (VB t2020_3) v w') (does_val (x_assign rfl (hS.get 1 rfl)) rfl) ?_
      rintro vw2026 w2026 ⟨hb, he⟩
      have hBw2026_w := below_step hBw2025_w hb
      have hBw2026_wL2 := below_step hBw2025_wL2 hb
      have hBw2026_w2007 := below_step hBw2025_w2007 hb
      have hBw2026_w2008 := below_step hBw2025_w2008 hb
      have hBw2026_w2013 := below_step hBw2025_w2013 hb
      have hBw2026_w2018 := below_step hBw2025_w2018 hb
      have hBw2026_w2025 := below_step hBw2025_w2025 hb
      have hBw2026_w2026 := Below.refl w2026.heap.size w2026
      obtain rfl : vw2026 = .bool t2020_3 := he
      refine hS.next (v := .bool t2020_3) (d := 22) rfl (by decide) (by rfl) ?_
      clear hS
      intro at2027 hS
      refine wpList_nil ?_
      refine hK2019 _ _ ?_
      (try clear hK2019 K2019)
      refine wp_seq_k (fun K2028 hK2028 => ?_)
      refine reg_seq (N := 173) (bs := [(22, .bool t2020_3), (21, .pointer (some ⟨g2023, 0, none⟩)), (87, .bool t2020_3), (86, .agg #[.int .i64 t2020_1, .string t2020_2]), (20, .int .i64 t2016), (19, .bool t2011_2), (18, .slice A2014 t2011_1.length C2014), (17, .bool t2003_3), (4, .string x2_4), (15, .slice AL2_15 y2_15.length CL2_15)]) (I := fun x => Below w.heap.size w x ∧ Below wL2.heap.size wL2 x ∧ Below w2007.heap.size w2007 x ∧ Below w2008.heap.size w2008 x ∧ Below w2013.heap.size w2013 x ∧ Below w2018.heap.size w2018 x ∧ Below w2025.heap.size w2025 x ∧ Below w2026.heap.size w2026 x) (ps := [IsV (.agg #[.int .i64 t2020_1, .string t2020_2]), IsV (.tuple #[.int .i64 t2029_1, .string t2029_2, .bool t2029_3]), IsV (.tuple #[.int .i64 t2029_1, .string t2029_2, .bool t2029_3]), VI t2029_1, IsV (.string t2029_2), VB t2029_3, VI t2029_1, IsV (.string t2029_2), VB t2029_3]) (by kernel_rfl) ?_ ?_ rfl hS ⟨hBw2026_w, hBw2026_wL2, hBw2026_w2007, hBw2026_w2008, hBw2026_w2013, hBw2026_w2018, hBw2026_w2025, hBw2026_w2026⟩ ?_ ?_
      · exact fun x y hI hb => ⟨below_step hI.1 hb, below_step hI.2.1 hb, below_step hI.2.2.1 hb, below_step hI.2.2.2.1 hb, below_step hI.2.2.2.2.1 hb, below_step hI.2.2.2.2.2.1 hb, below_step hI.2.2.2.2.2.2.1 hb, below_step hI.2.2.2.2.2.2.2 hb⟩
      · exact .v (.v (.v (.v (.v (.v (.v (.v (.v (.nil)))))))))
      · refine .on rfl (fun a w hS hI hp => does_loadrow rfl (hS.get 1 rfl) (((hI.2.2.2.2.2.2.1).block g2023 (blk_lt hbxw2025)).trans hbxw2025) Try.underlying26 rfl (by kernel_rfl) rfl) ?_
        refine .on rfl (fun a w hS hI hp => does_call (by kernel_rfl) (ar1 (hp.V 0 rfl rfl)) ((tlv_ManageOf.calls k t2020_1 t2020_2 t2029_1 t2029_2 t2029_3 _  At2029).mono fun _ _ h => ⟨_, h.1, h.2, rfl⟩)) ?_
        refine .mv 1 rfl rfl rfl rfl ?_
        iterate 3 refine .on rfl (fun a w hS hI hp => does_val (x_extract rfl (hp.V 2 rfl rfl) rfl) rfl) ?_
        refine .asg 3 rfl rfl rfl rfl ?_
        refine .asg 4 rfl rfl rfl rfl ?_
        refine .asg 5 rfl rfl rfl rfl ?_
        exact .nil
      clear hS
      intro at2030 w2031 hS hI hp
      have hBw2031_w := hI.1
      have hBw2031_wL2 := hI.2.1
      have hBw2031_w2007 := hI.2.2.1
      have hBw2031_w2008 := hI.2.2.2.1
      have hBw2031_w2013 := hI.2.2.2.2.1
      have hBw2031_w2018 := hI.2.2.2.2.2.1
      have hBw2031_w2025 := hI.2.2.2.2.2.2.1
      have hBw2031_w2026 := hI.2.2.2.2.2.2.2
      replace hS := ((((((((hS.nil).cons (hS.get 9 rfl)).cons (hS.get 8 rfl)).cons (hS.get 7 rfl)).cons (hS.get 6 rfl)).cons (hS.get 5 rfl)).cons (hS.get 4 rfl)).cons (hS.get 1 rfl)).cons (hS.get 0 rfl)
      have hv23 : sl _ 23 = .int .i64 t2029_1 := hp 6 (by decide)
      have hv24 : sl _ 24 = .string t2029_2 := hp 7 (by decide)
      have hv25 : sl _ 25 = .bool t2029_3 := hp 8 (by decide)
      have hBw2031_w2031 := Below.refl w2031.heap.size w2031
      have hS := hS.cons hv23
      have hS := hS.cons hv24
      have hS := hS.cons hv25
      clear hp hI hv23 hv24 hv25
      refine hK2028 _ _ ?_
      (try clear hK2028 K2028)
      refine wp_seq_k (fun K2032 hK2032 => ?_)
      refine reg_seq_tail 6 (N := 173) (bs := [(25, .bool t2029_3), (24, .string t2029_2), (23, .int .i64 t2029_1), (22, .bool t2020_3), (21, .pointer (some ⟨g2023, 0, none⟩)), (20, .int .i64 t2016), (19, .bool t2011_2), (18, .slice A2014 t2011_1.length C2014), (17, .bool t2003_3), (4, .string x2_4), (15, .slice AL2_15 y2_15.length CL2_15)]) (I := fun x => Below w.heap.size w x ∧ Below wL2.heap.size wL2 x ∧ Below w2007.heap.size w2007 x ∧ Below w2008.heap.size w2008 x ∧ Below w2013.heap.size w2013 x ∧ Below w2018.heap.size w2018 x ∧ Below w2025.heap.size w2025 x ∧ Below w2031.heap.size w2031 x) (ps := [VI t2016, IsV (.tuple #[.agg #[.int .i64 t2033_1, .string t2033_2], .bool t2033_3]), IsV (.tuple #[.agg #[.int .i64 t2033_1, .string t2033_2], .bool t2033_3]), IsV (.agg #[.int .i64 t2033_1, .string t2033_2]), VB t2033_3, IsB #[.int .i64 0, .string (⟨#[]⟩ : ByteArray)] 26 w2031.heap.size]) (by kernel_rfl) ?_ ?_ rfl hS ⟨hBw2031_w, hBw2031_wL2, hBw2031_w2007, hBw2031_w2008, hBw2031_w2013, hBw2031_w2018, hBw2031_w2025, hBw2031_w2031⟩ ?_ ?_
      · exact fun x y hI hb => ⟨below_step hI.1 hb, below_step hI.2.1 hb, below_step hI.2.2.1 hb, below_step hI.2.2.2.1 hb, below_step hI.2.2.2.2.1 hb, below_step hI.2.2.2.2.2.1 hb, below_step hI.2.2.2.2.2.2.1 hb, below_step hI.2.2.2.2.2.2.2 hb⟩
      · exact .v (.v (.v (.v (.v (.cons (Stays.b _ _ _) (.nil))))))
      · refine .ms 5 rfl rfl rfl ?_
        refine .on rfl (fun a w hS hI hp => does_call (by kernel_rfl) (ar2 (hp.V 0 rfl rfl) (rfl)) ((tlv_Fault.calls k t2016 7 t2033_1 t2033_2 t2033_3 _  At2033).mono fun _ _ h => ⟨_, h.1, h.2, rfl⟩)) ?_
        refine .mv 1 rfl rfl rfl rfl ?_
        iterate 2 refine .on rfl (fun a w hS hI hp => does_val (x_extract rfl (hp.V 2 rfl rfl) rfl) rfl) ?_
        refine .on rfl (fun a w hS hI hp => does_var (x_alloc rfl (by kernel_rfl)) (hI.2.2.2.2.2.2.2).size) ?_
        exact .nil
      clear hS
      intro at2034 w2035 hS hI hp
      have hBw2035_w := hI.1
      have hBw2035_wL2 := hI.2.1
      have hBw2035_w2007 := hI.2.2.1
      have hBw2035_w2008 := hI.2.2.2.1
      have hBw2035_w2013 := hI.2.2.2.2.1
      have hBw2035_w2018 := hI.2.2.2.2.2.1
      have hBw2035_w2025 := hI.2.2.2.2.2.2.1
      have hBw2035_w2031 := hI.2.2.2.2.2.2.2
      have hv97 : sl _ 97 = .agg #[.int .i64 t2033_1, .string t2033_2] := hp 3 (by decide)
      have hv98 : sl _ 98 = .bool t2033_3 := hp 4 (by decide)
      obtain ⟨g2036, hv26, hgeg2036, hbxg2036⟩ := (show IsB _ 26 _ (sl _ 26) _ from hp 5 (by decide))
      have hne2037 : g2036 ≠ g2006 := Nat.ne_of_gt (Nat.lt_of_lt_of_le (blk_lt ((hBw2031_w2007.block g2006 (blk_lt hbxw2007)).trans hbxw2007)) hgeg2036)
      have hne2038 : g2036 ≠ g2023 := Nat.ne_of_gt (Nat.lt_of_lt_of_le (blk_lt ((hBw2031_w2025.block g2023 (blk_lt hbxw2025)).trans hbxw2025)) hgeg2036)
      have hBw2035_w2035 := Below.refl w2035.heap.size w2035
      have hS := hS.cons hv97
      have hS := hS.cons hv98
      have hS := hS.cons hv26
      clear hp hI hv97 hv98 hv26
      show wpList _ _ _ [_, _] _ _
      refine list_step rfl (does_storeAll (g := g2036) (cs := #[.int .i64 t2033_1, .string t2033_2]) rfl (hS.get 0 rfl) (hS.get 2 rfl) ((hBw2035_w2035.block g2036 (blk_lt hbxg2036)).trans hbxg2036) (by kernel_rfl) (by kernel_rfl) (by kernel_rfl)) ?_
      rintro vw2039 w2039 ⟨rfl, hbxw2039, hT⟩
      have hBw2039_w := hT.below hBw2035_w (Nat.le_trans (hBw2031_w).size hgeg2036) (hBw2035_w).size
      have hBw2039_wL2 := hT.below hBw2035_wL2 (Nat.le_trans (hBw2031_wL2).size hgeg2036) (hBw2035_wL2).size
      have hBw2039_w2007 := hT.below hBw2035_w2007 (Nat.le_trans (hBw2031_w2007).size hgeg2036) (hBw2035_w2007).size
      have hBw2039_w2008 := hT.below hBw2035_w2008 (Nat.le_trans (hBw2031_w2008).size hgeg2036) (hBw2035_w2008).size
      have hBw2039_w2013 := hT.below hBw2035_w2013 (Nat.le_trans (hBw2031_w2013).size hgeg2036) (hBw2035_w2013).size
      have hBw2039_w2018 := hT.below hBw2035_w2018 (Nat.le_trans (hBw2031_w2018).size hgeg2036) (hBw2035_w2018).size
      have hBw2039_w2025 := hT.below hBw2035_w2025 (Nat.le_trans (hBw2031_w2025).size hgeg2036) (hBw2035_w2025).size
      have hBw2039_w2031 := hT.below hBw2035_w2031 hgeg2036 (hBw2035_w2031).size
      have hBw2039_w2039 := Below.refl w2039.heap.size w2039
      clear hT
      refine list_step rfl (R := fun v w' => Below _ _ w' ∧ (VB t2033_3) v w') (does_val (x_assign rfl (hS.get 1 rfl)) rfl) ?_
      rintro vw2040 w2040 ⟨hb, he⟩
      have hBw2040_w := below_step hBw2039_w hb
      have hBw2040_wL2 := below_step hBw2039_wL2 hb
      have hBw2040_w2007 := below_step hBw2039_w2007 hb
      have hBw2040_w2008 := below_step hBw2039_w2008 hb
      have hBw2040_w2013 := below_step hBw2039_w2013 hb
      have hBw2040_w2018 := below_step hBw2039_w2018 hb
      have hBw2040_w2025 := below_step hBw2039_w2025 hb
      have hBw2040_w2031 := below_step hBw2039_w2031 hb
      have hBw2040_w2039 := below_step hBw2039_w2039 hb
      have hBw2040_w2040 := Below.refl w2040.heap.size w2040
      obtain rfl : vw2040 = .bool t2033_3 := he
      refine hS.next (v := .bool t2033_3) (d := 27) rfl (by decide) (by rfl) ?_
      clear hS
      intro at2041 hS
      refine wpList_nil ?_
      refine hK2032 _ _ ?_
      (try clear hK2032 K2032)
      refine wp_seq_k (fun K2042 hK2042 => ?_)
      refine reg_seq (N := 173) (bs := [(27, .bool t2033_3), (26, .pointer (some ⟨g2036, 0, none⟩)), (98, .bool t2033_3), (97, .agg #[.int .i64 t2033_1, .string t2033_2]), (25, .bool t2029_3), (24, .string t2029_2), (23, .int .i64 t2029_1), (22, .bool t2020_3), (21, .pointer (some ⟨g2023, 0, none⟩)), (20, .int .i64 t2016), (19, .bool t2011_2), (18, .slice A2014 t2011_1.length C2014), (17, .bool t2003_3), (4, .string x2_4), (15, .slice AL2_15 y2_15.length CL2_15)]) (I := fun x => Below w.heap.size w x ∧ Below wL2.heap.size wL2 x ∧ Below w2007.heap.size w2007 x ∧ Below w2008.heap.size w2008 x ∧ Below w2013.heap.size w2013 x ∧ Below w2018.heap.size w2018 x ∧ Below w2025.heap.size w2025 x ∧ Below w2031.heap.size w2031 x ∧ Below w2039.heap.size w2039 x ∧ Below w2040.heap.size w2040 x) (ps := [IsV (.agg #[.int .i64 t2033_1, .string t2033_2]), IsV (.tuple #[.int .i64 t2043_1, .int .i64 t2043_2, .bool t2043_3]), IsV (.tuple #[.int .i64 t2043_1, .int .i64 t2043_2, .bool t2043_3]), VI t2043_1, VI t2043_2, VB t2043_3, VI t2043_1, VI t2043_2, VB t2043_3]) (by kernel_rfl) ?_ ?_ rfl hS ⟨hBw2040_w, hBw2040_wL2, hBw2040_w2007, hBw2040_w2008, hBw2040_w2013, hBw2040_w2018, hBw2040_w2025, hBw2040_w2031, hBw2040_w2039, hBw2040_w2040⟩ ?_ ?_
      · exact fun x y hI hb => ⟨below_step hI.1 hb, below_step hI.2.1 hb, below_step hI.2.2.1 hb, below_step hI.2.2.2.1 hb, below_step hI.2.2.2.2.1 hb, below_step hI.2.2.2.2.2.1 hb, below_step hI.2.2.2.2.2.2.1 hb, below_step hI.2.2.2.2.2.2.2.1 hb, below_step hI.2.2.2.2.2.2.2.2.1 hb, below_step hI.2.2.2.2.2.2.2.2.2 hb⟩
      · exact .v (.v (.v (.v (.v (.v (.v (.v (.v (.nil)))))))))
      · refine .on rfl (fun a w hS hI hp => does_loadrow rfl (hS.get 1 rfl) (((hI.2.2.2.2.2.2.2.2.1).block g2036 (blk_lt hbxw2039)).trans hbxw2039) Try.underlying26 rfl (by kernel_rfl) rfl) ?_
        refine .on rfl (fun a w hS hI hp => does_call (by kernel_rfl) (ar1 (hp.V 0 rfl rfl)) ((tlv_FaultOf.calls k t2033_1 t2033_2 t2043_1 t2043_2 t2043_3 _  At2043).mono fun _ _ h => ⟨_, h.1, h.2, rfl⟩)) ?_
        refine .mv 1 rfl rfl rfl rfl ?_
        iterate 3 refine .on rfl (fun a w hS hI hp => does_val (x_extract rfl (hp.V 2 rfl rfl) rfl) rfl) ?_
        refine .asg 3 rfl rfl rfl rfl ?_
        refine .asg 4 rfl rfl rfl rfl ?_
        refine .asg 5 rfl rfl rfl rfl ?_
        exact .nil
      clear hS
      intro at2044 w2045 hS hI hp
      have hBw2045_w := hI.1
      have hBw2045_wL2 := hI.2.1
      have hBw2045_w2007 := hI.2.2.1
      have hBw2045_w2008 := hI.2.2.2.1
      have hBw2045_w2013 := hI.2.2.2.2.1
      have hBw2045_w2018 := hI.2.2.2.2.2.1
      have hBw2045_w2025 := hI.2.2.2.2.2.2.1
      have hBw2045_w2031 := hI.2.2.2.2.2.2.2.1
      have hBw2045_w2039 := hI.2.2.2.2.2.2.2.2.1
      have hBw2045_w2040 := hI.2.2.2.2.2.2.2.2.2
      replace hS := ((((((((((((hS.nil).cons (hS.get 14 rfl)).cons (hS.get 13 rfl)).cons (hS.get 12 rfl)).cons (hS.get 11 rfl)).cons (hS.get 10 rfl)).cons (hS.get 9 rfl)).cons (hS.get 8 rfl)).cons (hS.get 7 rfl)).cons (hS.get 6 rfl)).cons (hS.get 5 rfl)).cons (hS.get 4 rfl)).cons (hS.get 0 rfl)
      have hv28 : sl _ 28 = .int .i64 t2043_1 := hp 6 (by decide)
      have hv29 : sl _ 29 = .int .i64 t2043_2 := hp 7 (by decide)
      have hv30 : sl _ 30 = .bool t2043_3 := hp 8 (by decide)
      have hBw2045_w2045 := Below.refl w2045.heap.size w2045
      have hS := hS.cons hv28
      have hS := hS.cons hv29
      have hS := hS.cons hv30
      clear hp hI hv28 hv29 hv30
      refine hK2042 _ _ ?_
      (try clear hK2042 K2042)
      refine wp_seq_k (fun K2046 hK2046 => ?_)
      refine wp_seq_k (fun K2047 hK2047 => ?_)
      refine reg_seq (N := 173) (bs := [(30, .bool t2043_3), (29, .int .i64 t2043_2), (28, .int .i64 t2043_1), (27, .bool t2033_3), (25, .bool t2029_3), (24, .string t2029_2), (23, .int .i64 t2029_1), (22, .bool t2020_3), (21, .pointer (some ⟨g2023, 0, none⟩)), (20, .int .i64 t2016), (19, .bool t2011_2), (18, .slice A2014 t2011_1.length C2014), (17, .bool t2003_3), (4, .string x2_4), (15, .slice AL2_15 y2_15.length CL2_15)]) (I := fun x => Below w.heap.size w x ∧ Below wL2.heap.size wL2 x ∧ Below w2007.heap.size w2007 x ∧ Below w2008.heap.size w2008 x ∧ Below w2013.heap.size w2013 x ∧ Below w2018.heap.size w2018 x ∧ Below w2025.heap.size w2025 x ∧ Below w2031.heap.size w2031 x ∧ Below w2039.heap.size w2039 x ∧ Below w2045.heap.size w2045 x) (ps := [VB t2003_3, VB (!t2003_3), VB (!t2003_3), VB t2011_2, VB (!t2011_2), VB (!t2011_2), VB (!t2011_2), VB t2020_3, VB (!t2020_3), VB (!t2020_3), VB (!t2020_3), VB t2029_3, VB (!t2029_3), VB (!t2029_3), VB (!t2029_3), VB t2033_3, VB (!t2033_3), VB (!t2033_3), VB (!t2033_3), VB t2043_3, VB (!t2043_3), VB (!t2043_3), VB (!t2043_3), IsV (.slice A2014 t2011_1.length C2014), IsV (.slice AL2_15 y2_15.length CL2_15), VB t2048, VB (!t2048), VB (!t2048), VB (!t2048), VI t2029_1, VI t2016, VB (!decide (t2029_1 = t2016)), VB (!decide (t2029_1 = t2016)), VB (!decide (t2029_1 = t2016)), VI t2043_1, VI t2016, VB (!decide (t2043_1 = t2016)), VB (!decide (t2043_1 = t2016)), VB (!decide (t2043_1 = t2016)), VI t2043_2, VB (!decide (t2043_2 = 7)), VB (!decide (t2043_2 = 7))]) (by kernel_rfl) ?_ ?_ rfl hS ⟨hBw2045_w, hBw2045_wL2, hBw2045_w2007, hBw2045_w2008, hBw2045_w2013, hBw2045_w2018, hBw2045_w2025, hBw2045_w2031, hBw2045_w2039, hBw2045_w2045⟩ ?_ ?_
      · exact fun x y hI hb => ⟨below_step hI.1 hb, below_step hI.2.1 hb, below_step hI.2.2.1 hb, below_step hI.2.2.2.1 hb, below_step hI.2.2.2.2.1 hb, below_step hI.2.2.2.2.2.1 hb, below_step hI.2.2.2.2.2.2.1 hb, below_step hI.2.2.2.2.2.2.2.1 hb, below_step hI.2.2.2.2.2.2.2.2.1 hb, below_step hI.2.2.2.2.2.2.2.2.2 hb⟩
      · exact .v (.v (.v (.v (.v (.v (.v (.v (.v (.v (.v (.v (.v (.v (.v (.v (.v (.v (.v (.v (.v (.v (.v (.v (.v (.v (.v (.v (.v (.v (.v (.v (.v (.v (.v (.v (.v (.v (.v (.v (.v (.v (.nil))))))))))))))))))))))))))))))))))))))))))
      · refine .ms 12 rfl rfl rfl ?_
        refine .on rfl (fun a w hS hI hp => does_val (x_not rfl (hp.V 0 rfl rfl)) rfl) ?_
        refine .mv 1 rfl rfl rfl rfl ?_
        refine .oy 2 107 rfl rfl rfl rfl rfl ((congrArg (!·) c3)) (fun a w hS hI hp => does_val (x_move rfl (hS.get 10 rfl)) rfl) ?_
        refine .oy 2 107 rfl rfl rfl rfl rfl ((congrArg (!·) c3)) (fun a w hS hI hp => does_val (x_not rfl (hp.V 3 rfl rfl)) rfl) ?_
        refine .on rfl (fun a w hS hI hp => does_val (x_pickF rfl ((hp.V 2 rfl rfl).trans (bF (congrArg (!·) c3))) (hp.V 4 rfl rfl)) rfl) ?_
        refine .mv 5 rfl rfl rfl rfl ?_
        refine .oy 6 111 rfl rfl rfl rfl rfl ((congrArg (!·) c4)) (fun a w hS hI hp => does_val (x_move rfl (hS.get 7 rfl)) rfl) ?_
        refine .oy 6 111 rfl rfl rfl rfl rfl ((congrArg (!·) c4)) (fun a w hS hI hp => does_val (x_not rfl (hp.V 7 rfl rfl)) rfl) ?_
        refine .on rfl (fun a w hS hI hp => does_val (x_pickF rfl ((hp.V 6 rfl rfl).trans (bF (congrArg (!·) c4))) (hp.V 8 rfl rfl)) rfl) ?_
        refine .mv 9 rfl rfl rfl rfl ?_
        refine .oy 10 115 rfl rfl rfl rfl rfl ((congrArg (!·) c5)) (fun a w hS hI hp => does_val (x_move rfl (hS.get 4 rfl)) rfl) ?_
        refine .oy 10 115 rfl rfl rfl rfl rfl ((congrArg (!·) c5)) (fun a w hS hI hp => does_val (x_not rfl (hp.V 11 rfl rfl)) rfl) ?_
        refine .on rfl (fun a w hS hI hp => does_val (x_pickF rfl ((hp.V 10 rfl rfl).trans (bF (congrArg (!·) c5))) (hp.V 12 rfl rfl)) rfl) ?_
        refine .mv 13 rfl rfl rfl rfl ?_
        refine .oy 14 119 rfl rfl rfl rfl rfl ((congrArg (!·) c6)) (fun a w hS hI hp => does_val (x_move rfl (hS.get 3 rfl)) rfl) ?_
        refine .oy 14 119 rfl rfl rfl rfl rfl ((congrArg (!·) c6)) (fun a w hS hI hp => does_val (x_not rfl (hp.V 15 rfl rfl)) rfl) ?_
        refine .on rfl (fun a w hS hI hp => does_val (x_pickF rfl ((hp.V 14 rfl rfl).trans (bF (congrArg (!·) c6))) (hp.V 16 rfl rfl)) rfl) ?_
        refine .mv 17 rfl rfl rfl rfl ?_
        refine .oy 18 123 rfl rfl rfl rfl rfl ((congrArg (!·) c7)) (fun a w hS hI hp => does_val (x_move rfl (hS.get 0 rfl)) rfl) ?_
        refine .oy 18 123 rfl rfl rfl rfl rfl ((congrArg (!·) c7)) (fun a w hS hI hp => does_val (x_not rfl (hp.V 19 rfl rfl)) rfl) ?_
        refine .on rfl (fun a w hS hI hp => does_val (x_pickF rfl ((hp.V 18 rfl rfl).trans (bF (congrArg (!·) c7))) (hp.V 20 rfl rfl)) rfl) ?_
        refine .mv 21 rfl rfl rfl rfl ?_
        refine .oy 22 127 rfl rfl rfl rfl rfl ((congrArg (!·) c8)) (fun a w hS hI hp => does_val (x_move rfl (hS.get 11 rfl)) rfl) ?_
        refine .oy 22 127 rfl rfl rfl rfl rfl ((congrArg (!·) c8)) (fun a w hS hI hp => does_val (x_move rfl (hS.get 14 rfl)) rfl) ?_
        refine .oy 22 127 rfl rfl rfl rfl rfl ((congrArg (!·) c8)) (fun a w hS hI hp => does_call (by kernel_rfl) (ar2 (hp.V 23 rfl rfl) (hp.V 24 rfl rfl)) ((carillonlaw00_SameIds.calls k _ _ t2011_1 _ _ y2_15 t2048 _ (Kd.C_below hc2014 hI.2.2.2.2.1) hl2014 (Kd.C_below hcL2_15 hI.1) hr2_15 At2048).mono fun _ _ h => ⟨_, h.1, h.2.below, rfl⟩)) ?_
        refine .oy 22 127 rfl rfl rfl rfl rfl ((congrArg (!·) c8)) (fun a w hS hI hp => does_val (x_not rfl (hp.V 25 rfl rfl)) rfl) ?_
        refine .on rfl (fun a w hS hI hp => does_val (x_pickF rfl ((hp.V 22 rfl rfl).trans (bF (congrArg (!·) c8))) (hp.V 26 rfl rfl)) rfl) ?_
        refine .mv 27 rfl rfl rfl rfl ?_
        refine .oy 28 133 rfl rfl rfl rfl rfl ((congrArg (!·) c9)) (fun a w hS hI hp => does_val (x_move rfl (hS.get 6 rfl)) rfl) ?_
        refine .oy 28 133 rfl rfl rfl rfl rfl ((congrArg (!·) c9)) (fun a w hS hI hp => does_val (x_move rfl (hS.get 9 rfl)) rfl) ?_
        refine .oy 28 133 rfl rfl rfl rfl rfl ((congrArg (!·) c9)) (fun a w hS hI hp => does_val (x_bin rfl (hp.V 29 rfl rfl) (hp.V 30 rfl rfl) (b_neq _ _ _ _ _ _)) rfl) ?_
        refine .on rfl (fun a w hS hI hp => does_val (x_pickF rfl ((hp.V 28 rfl rfl).trans (bF (congrArg (!·) c9))) (hp.V 31 rfl rfl)) rfl) ?_
        refine .mv 32 rfl rfl rfl rfl ?_
        refine .oy 33 138 rfl rfl rfl rfl rfl ((congrArg (!·) (decide_eq_true c10))) (fun a w hS hI hp => does_val (x_move rfl (hS.get 2 rfl)) rfl) ?_
        refine .oy 33 138 rfl rfl rfl rfl rfl ((congrArg (!·) (decide_eq_true c10))) (fun a w hS hI hp => does_val (x_move rfl (hS.get 9 rfl)) rfl) ?_
        refine .oy 33 138 rfl rfl rfl rfl rfl ((congrArg (!·) (decide_eq_true c10))) (fun a w hS hI hp => does_val (x_bin rfl (hp.V 34 rfl rfl) (hp.V 35 rfl rfl) (b_neq _ _ _ _ _ _)) rfl) ?_
        refine .on rfl (fun a w hS hI hp => does_val (x_pickF rfl ((hp.V 33 rfl rfl).trans (bF (congrArg (!·) (decide_eq_true c10)))) (hp.V 36 rfl rfl)) rfl) ?_
        refine .mv 37 rfl rfl rfl rfl ?_
        refine .oy 38 143 rfl rfl rfl rfl rfl ((congrArg (!·) (decide_eq_true c11))) (fun a w hS hI hp => does_val (x_move rfl (hS.get 1 rfl)) rfl) ?_
        refine .oy 38 143 rfl rfl rfl rfl rfl ((congrArg (!·) (decide_eq_true c11))) (fun a w hS hI hp => does_val (x_bin rfl (hp.V 39 rfl rfl) (rfl) (b_neq _ _ _ _ _ _)) rfl) ?_
        refine .on rfl (fun a w hS hI hp => does_val (x_pickF rfl ((hp.V 38 rfl rfl).trans (bF (congrArg (!·) (decide_eq_true c11)))) (hp.V 40 rfl rfl)) rfl) ?_
        exact .nil
      clear hS
      intro at2049 w2050 hS hI hp
      have hBw2050_w := hI.1
      have hBw2050_wL2 := hI.2.1
      have hBw2050_w2007 := hI.2.2.1
      have hBw2050_w2008 := hI.2.2.2.1
      have hBw2050_w2013 := hI.2.2.2.2.1
      have hBw2050_w2018 := hI.2.2.2.2.2.1
      have hBw2050_w2025 := hI.2.2.2.2.2.2.1
      have hBw2050_w2031 := hI.2.2.2.2.2.2.2.1
      have hBw2050_w2039 := hI.2.2.2.2.2.2.2.2.1
      have hBw2050_w2045 := hI.2.2.2.2.2.2.2.2.2
      replace hS := (((hS.nil).cons (hS.get 13 rfl)).cons (hS.get 8 rfl)).cons (hS.get 5 rfl)
      have hv146 : sl _ 146 = .bool (!decide (t2043_2 = 7)) := hp 41 (by decide)
      have hBw2050_w2050 := Below.refl w2050.heap.size w2050
      have hS := hS.cons hv146
      clear hp hI hv146
      refine hK2047 _ _ ?_
      (try clear hK2047 K2047)
      refine wp_cond_false ((hS.get 0 rfl).trans (bF (congrArg (!·) (decide_eq_true c12)))) ?_
      refine wp_skip ?_
      refine hK2046 _ _ ?_
      (try clear hK2046 K2046)
      refine wp_seq_k (fun K2051 hK2051 => ?_)
      refine reg_seq (N := 173) (bs := [(146, .bool (!decide (t2043_2 = 7))), (24, .string t2029_2), (21, .pointer (some ⟨g2023, 0, none⟩)), (4, .string x2_4)]) (I := fun x => Below w.heap.size w x ∧ Below wL2.heap.size wL2 x ∧ Below w2007.heap.size w2007 x ∧ Below w2018.heap.size w2018 x ∧ Below w2025.heap.size w2025 x ∧ Below w2031.heap.size w2031 x ∧ Below w2039.heap.size w2039 x ∧ Below w2050.heap.size w2050 x) (ps := [IsV (.string t2029_2), IsV (.string x2_4), VB (t2029_2.toList == x2_4.toList), VB (t2029_2.toList == x2_4.toList), IsV (.string t2029_2), IsV (.string x2_4), IsV (.string (x2_4 ++ (⟨#[0]⟩ : ByteArray))), VB (t2029_2.toList == (x2_4 ++ (⟨#[0]⟩ : ByteArray)).toList), VB (t2029_2.toList == (x2_4 ++ (⟨#[0]⟩ : ByteArray)).toList), IsV (.string x2_4), VI (x2_4.size : Int), VI (Int.tmod (x2_4.size : Int) 2), VB (decide ((Int.tmod (x2_4.size : Int) 2) = 1)), VB (decide ((Int.tmod (x2_4.size : Int) 2) = 1)), VB (decide ((Int.tmod (x2_4.size : Int) 2) = 1)), VB (decide ((Int.tmod (x2_4.size : Int) 2) = 1)), IsV (.agg #[.int .i64 t2020_1, .string t2020_2]), VB t2052, VB t2052, VB t2052, IsV (.agg #[.int .i64 t2020_1, .string t2020_2]), VB t2053, VB t2053, VB t2053, VB t2054, VB t2054, VB t2054]) (by kernel_rfl) ?_ ?_ rfl hS ⟨hBw2050_w, hBw2050_wL2, hBw2050_w2007, hBw2050_w2018, hBw2050_w2025, hBw2050_w2031, hBw2050_w2039, hBw2050_w2050⟩ ?_ ?_
      · exact fun x y hI hb => ⟨below_step hI.1 hb, below_step hI.2.1 hb, below_step hI.2.2.1 hb, below_step hI.2.2.2.1 hb, below_step hI.2.2.2.2.1 hb, below_step hI.2.2.2.2.2.1 hb, below_step hI.2.2.2.2.2.2.1 hb, below_step hI.2.2.2.2.2.2.2 hb⟩
      · exact .v (.v (.v (.v (.v (.v (.v (.v (.v (.v (.v (.v (.v (.v (.v (.v (.v (.v (.v (.v (.v (.v (.v (.v (.v (.v (.v (.nil)))))))))))))))))))))))))))
      · refine .ms 1 rfl rfl rfl ?_
        refine .ms 3 rfl rfl rfl ?_
        refine .on rfl (fun a w hS hI hp => does_val (x_bin rfl (hp.V 0 rfl rfl) (hp.V 1 rfl rfl) (b_eqs _ _ _ _ _)) rfl) ?_
        refine .mv 2 rfl rfl rfl rfl ?_
        refine .oy 3 150 rfl rfl rfl rfl rfl ((Bool.eq_false_iff.2 c13)) (fun a w hS hI hp => does_val (x_move rfl (hS.get 1 rfl)) rfl) ?_
        refine .oy 3 150 rfl rfl rfl rfl rfl ((Bool.eq_false_iff.2 c13)) (fun a w hS hI hp => does_val (x_move rfl (hS.get 3 rfl)) rfl) ?_
        refine .oy 3 150 rfl rfl rfl rfl rfl ((Bool.eq_false_iff.2 c13)) (fun a w hS hI hp => does_val (x_bin rfl (hp.V 5 rfl rfl) (rfl) (b_adds _ _ _ _ _ c14)) rfl) ?_
        refine .oy 3 150 rfl rfl rfl rfl rfl ((Bool.eq_false_iff.2 c13)) (fun a w hS hI hp => does_val (x_bin rfl (hp.V 4 rfl rfl) (hp.V 6 rfl rfl) (b_eqs _ _ _ _ _)) rfl) ?_
        refine .oy 3 150 rfl rfl rfl rfl rfl ((Bool.eq_false_iff.2 c13)) (fun a w hS hI hp => does_val (x_move rfl (hp.V 7 rfl rfl)) rfl) ?_
        refine .oy 8 155 rfl rfl rfl rfl rfl c15 (fun a w hS hI hp => does_val (x_move rfl (hS.get 3 rfl)) rfl) ?_
        refine .oy 8 155 rfl rfl rfl rfl rfl c15 (fun a w hS hI hp => does_val (x_lenS rfl (by kernel_rfl) (hp.V 9 rfl rfl)) rfl) ?_
        refine .oy 8 155 rfl rfl rfl rfl rfl c15 (fun a w hS hI hp => does_val (x_bin rfl (hp.V 10 rfl rfl) (rfl) (b_rem _ _ _ _ _ _ (by decide))) rfl) ?_
        refine .oy 8 155 rfl rfl rfl rfl rfl c15 (fun a w hS hI hp => does_val (x_bin rfl (hp.V 11 rfl rfl) (rfl) (b_eql _ _ _ _ _ _)) rfl) ?_
        refine .oy 3 150 rfl rfl rfl rfl rfl ((Bool.eq_false_iff.2 c13)) (fun a w hS hI hp => does_val (x_pickT rfl ((hp.V 8 rfl rfl).trans (bT c15)) (hp.V 12 rfl rfl)) rfl) ?_
        refine .on rfl (fun a w hS hI hp => does_val (x_pickF rfl ((hp.V 3 rfl rfl).trans (bF (Bool.eq_false_iff.2 c13))) (hp.V 13 rfl rfl)) rfl) ?_
        refine .mv 14 rfl rfl rfl rfl ?_
        refine .oy 15 162 rfl rfl rfl rfl rfl ((decide_eq_true c16)) (fun a w hS hI hp => does_loadrow rfl (hS.get 2 rfl) (((hI.2.2.2.2.1).block g2023 (blk_lt hbxw2025)).trans hbxw2025) Try.underlying26 rfl (by kernel_rfl) rfl) ?_
        refine .oy 15 162 rfl rfl rfl rfl rfl ((decide_eq_true c16)) (fun a w hS hI hp => does_call (by kernel_rfl) (ar1 (hp.V 16 rfl rfl)) ((tlv_Check.calls t2020_1 t2020_2 t2052 _  At2052).mono fun _ _ h => ⟨_, h.1, h.2, rfl⟩)) ?_
        refine .pt 15 17 rfl rfl rfl rfl ((decide_eq_true c16)) rfl rfl ?_
        refine .mv 18 rfl rfl rfl rfl ?_
        refine .oy 19 166 rfl rfl rfl rfl rfl c17 (fun a w hS hI hp => does_loadrow rfl (hS.get 2 rfl) (((hI.2.2.2.2.1).block g2023 (blk_lt hbxw2025)).trans hbxw2025) Try.underlying26 rfl (by kernel_rfl) rfl) ?_
        refine .oy 19 166 rfl rfl rfl rfl rfl c17 (fun a w hS hI hp => does_call (by kernel_rfl) (ar1 (hp.V 20 rfl rfl)) ((tlv_Known.calls t2020_1 t2020_2 t2053 _  At2053).mono fun _ _ h => ⟨_, h.1, h.2, rfl⟩)) ?_
        refine .pt 19 21 rfl rfl rfl rfl c17 rfl rfl ?_
        refine .mv 22 rfl rfl rfl rfl ?_
        refine .oy 23 170 rfl rfl rfl rfl rfl c18 (fun a w hS hI hp => does_call (by kernel_rfl) rfl ((carillonlaw08_awake.calls k  t2054 _  At2054).mono fun _ _ h => ⟨_, h.1, h.2, rfl⟩)) ?_
        refine .pt 23 24 rfl rfl rfl rfl c18 rfl rfl ?_
        refine .asg 25 rfl rfl rfl rfl ?_
        exact .nil
      clear hS
      intro at2055 w2056 hS hI hp
      have hBw2056_w := hI.1
      have hBw2056_wL2 := hI.2.1
      have hBw2056_w2007 := hI.2.2.1
      have hBw2056_w2018 := hI.2.2.2.1
      have hBw2056_w2025 := hI.2.2.2.2.1
      have hBw2056_w2031 := hI.2.2.2.2.2.1
      have hBw2056_w2039 := hI.2.2.2.2.2.2.1
      have hBw2056_w2050 := hI.2.2.2.2.2.2.2
      replace hS := hS.nil
      have hv10 : sl _ 10 = .bool t2054 := hp 26 (by decide)
      have hBw2056_w2056 := Below.refl w2056.heap.size w2056
      have hS := hS.cons hv10
      clear hp hI hv10
      refine hK2051 _ _ ?_
      (try clear hK2051 K2051)
      refine wp_ret ?_
      (try simp only [Exit.then, Exit.inBlock, Exit.jump, Exit.noGoto])
      exact bodyPost_ret (v := .bool true) (by rw [results_tmp rfl]; exact congrArg (Result.ok · _) ((hS.get 0 rfl).trans (congrArg Value.bool hret))) hS.nodef ⟨rfl, hBw2056_w⟩
    by_cases c3 : (y1_2.length : Int) > 16
    rotate_left
    · rw [if_neg c3] at H
      refine wp_seq_k (fun K1005 hK1005 => ?_)
      refine reg_seq (N := 173) (bs := [(15, .slice AL1_2 y1_2.length CL1_2), (3, .int .i64 x1_3), (4, .string x1_4)]) (I := fun x => Below w.heap.size w x ∧ Below w1003.heap.size w1003 x) (ps := [IsV (.slice AL1_2 y1_2.length CL1_2), VI (y1_2.length : Int), VB (decide ((y1_2.length : Int) > 16))]) (by kernel_rfl) ?_ ?_ rfl hS ⟨hBw1003_w, hBw1003_w1003⟩ ?_ ?_
      · exact fun x y hI hb => ⟨below_step hI.1 hb, below_step hI.2 hb⟩
      · exact .v (.v (.v (.nil)))
      · refine .ms 0 rfl rfl rfl ?_
        refine .on rfl (fun a w hS hI hp => does_val (x_len (e := 58) rfl (by kernel_rfl) (hp.V 0 rfl rfl)) rfl) ?_
        refine .on rfl (fun a w hS hI hp => does_val (x_bin rfl (hp.V 1 rfl rfl) (rfl) (b_gtr _ _ _ _ _ _)) rfl) ?_
        exact .nil
      clear hS
      intro at1006 w1007 hS hI hp
      have hBw1007_w := hI.1
      have hBw1007_w1003 := hI.2
      have hv66 : sl _ 66 = .bool (decide ((y1_2.length : Int) > 16)) := hp 2 (by decide)
      have hBw1007_w1007 := Below.refl w1007.heap.size w1007
      have hS := hS.cons hv66
      clear hp hI hv66
      refine hK1005 _ _ ?_
      (try clear hK1005 K1005)
      refine wp_cond_false ((hS.get 0 rfl).trans (bF (decide_eq_false c3))) ?_
      refine wp_skip ?_
      replace hS := (((hS.nil).cons (hS.get 1 rfl)).cons (hS.get 3 rfl)).cons (hS.get 2 rfl)
      (try simp only [Exit.then, Exit.inBlock])
      exact J2 _ _ x1_3 x1_4 y1_2 AL1_2 CL1_2 H hS hBw1007_w hr1_2 (hcL1_2)
    rw [if_pos c3] at H
    by_cases c4 : 16 ≤ (y1_2.length : Int)
    rotate_left
    · rw [if_neg c4] at H
      exact absurd H (by simp)
    rw [if_pos c4] at H
    refine wp_seq_k (fun K1005 hK1005 => ?_)
    refine reg_seq (N := 173) (bs := [(15, .slice AL1_2 y1_2.length CL1_2), (3, .int .i64 x1_3), (4, .string x1_4)]) (I := fun x => Below w.heap.size w x ∧ Below w1003.heap.size w1003 x) (ps := [IsV (.slice AL1_2 y1_2.length CL1_2), VI (y1_2.length : Int), VB (decide ((y1_2.length : Int) > 16))]) (by kernel_rfl) ?_ ?_ rfl hS ⟨hBw1003_w, hBw1003_w1003⟩ ?_ ?_
    · exact fun x y hI hb => ⟨below_step hI.1 hb, below_step hI.2 hb⟩
    · exact .v (.v (.v (.nil)))
    · refine .ms 0 rfl rfl rfl ?_
      refine .on rfl (fun a w hS hI hp => does_val (x_len (e := 58) rfl (by kernel_rfl) (hp.V 0 rfl rfl)) rfl) ?_
      refine .on rfl (fun a w hS hI hp => does_val (x_bin rfl (hp.V 1 rfl rfl) (rfl) (b_gtr _ _ _ _ _ _)) rfl) ?_
      exact .nil
    clear hS
    intro at1006 w1007 hS hI hp
    have hBw1007_w := hI.1
    have hBw1007_w1003 := hI.2
    have hv66 : sl _ 66 = .bool (decide ((y1_2.length : Int) > 16)) := hp 2 (by decide)
    have hBw1007_w1007 := Below.refl w1007.heap.size w1007
    have hS := hS.cons hv66
    clear hp hI hv66
    refine hK1005 _ _ ?_
    (try clear hK1005 K1005)
    refine wp_cond_true ((hS.get 0 rfl).trans (bT (decide_eq_true c3))) ?_
    refine reg_seq_tail 2 (N := 173) (bs := [(66, .bool (decide ((y1_2.length : Int) > 16))), (15, .slice AL1_2 y1_2.length CL1_2), (3, .int .i64 x1_3), (4, .string x1_4)]) (I := fun x => Below w.heap.size w x ∧ Below w1007.heap.size w1007 x) (ps := [IsV (.slice AL1_2 y1_2.length CL1_2), IsV (.slice AL1_2 ((y1_2.take (16 : Int).toNat).length) CL1_2)]) (by kernel_rfl) ?_ ?_ rfl hS ⟨hBw1007_w, hBw1007_w1007⟩ ?_ ?_
    · exact fun x y hI hb => ⟨below_step hI.1 hb, below_step hI.2 hb⟩
    · exact .v (.v (.nil))
    · refine .ms 1 rfl rfl rfl ?_
      refine .on rfl (fun a w hS hI hp => does_val (x_cuthi rfl (e := 58) (xs := y1_2) (by kernel_rfl) (by kernel_rfl) (hp.V 0 rfl rfl) (rfl) (by decide) c4 hr1_2) rfl) ?_
      exact .nil
    clear hS
    intro at1008 w1009 hS hI hp
    have hBw1009_w := hI.1
    have hBw1009_w1007 := hI.2
    replace hS := (((hS.nil).cons (hS.get 3 rfl)).cons (hS.get 2 rfl)).cons (hS.get 1 rfl)
    have hv68 : sl _ 68 = .slice AL1_2 ((y1_2.take (16 : Int).toNat).length) CL1_2 := hp 1 (by decide)
    have hBw1009_w1009 := Below.refl w1009.heap.size w1009
    have hS := hS.cons hv68
    clear hp hI hv68
    show wpList _ _ _ [_] _ _
    refine list_step rfl (R := fun v w' => Below _ _ w' ∧ (IsV (.slice AL1_2 ((y1_2.take (16 : Int).toNat).length) CL1_2)) v w') (does_val (x_assign rfl (hS.get 0 rfl)) rfl) ?_
    rintro vw1010 w1010 ⟨hb, he⟩
    have hBw1010_w := below_step hBw1009_w hb
    have hBw1010_w1009 := below_step hBw1009_w1009 hb
    have hBw1010_w1010 := Below.refl w1010.heap.size w1010
    obtain rfl : vw1010 = .slice AL1_2 ((y1_2.take (16 : Int).toNat).length) CL1_2 := he
    replace hS := (((hS.nil).cons (hS.get 3 rfl)).cons (hS.get 2 rfl)).cons (hS.get 0 rfl)
    refine hS.next (v := .slice AL1_2 ((y1_2.take (16 : Int).toNat).length) CL1_2) (d := 15) rfl (by decide) (by rfl) ?_
    clear hS
    intro at1011 hS
    refine wpList_nil ?_
    replace hS := (((hS.nil).cons (hS.get 0 rfl)).cons (hS.get 3 rfl)).cons (hS.get 2 rfl)
    (try simp only [Exit.then, Exit.inBlock])
    exact J2 _ _ x1_3 x1_4 (y1_2.take (16 : Int).toNat) AL1_2 CL1_2 H hS hBw1010_w (Nat.le_trans (List.length_take_le' _ _) hr1_2) (Kd.C_take (m := (16 : Int).toNat) hcL1_2 (by have := c4; omega))
  obtain ⟨t11, At11, H⟩ := Option.bind_eq_some_iff.mp H
  obtain ⟨t12, At12, H⟩ := Option.bind_eq_some_iff.mp H
  obtain ⟨t12_1, t12_2⟩ := t12
  (try dsimp only at H)
  by_cases c3 : t12_2 = true
  rotate_left
  · rw [if_neg c3] at H
    refine wp_seq_k (fun K10 hK10 => ?_)
    refine reg_seq (N := 173) (bs := [(38, .bool (decide ((a4.size : Int) > 300))), (0, .slice A0 l0.length cp0), (1, .slice A1 l1.length cp1), (2, .slice A2 l2.length cp2), (3, .int .i64 a3), (4, .string a4)]) (I := fun x => Below w.heap.size w x ∧ Below w8.heap.size w8 x) (ps := [IsV (.slice A0 l0.length cp0), IsR (Kd.int .u8) 5 w8.heap.size t11, IsV (.slice A1 l1.length cp1), IsT (fun v0_ => #[v0_, .bool t12_2]) (IsC (Kd.int .u8) t12_1), IsT (fun v0_ => #[v0_, .bool t12_2]) (IsC (Kd.int .u8) t12_1), IsC (Kd.int .u8) t12_1, VB t12_2, IsC (Kd.int .u8) t12_1, VB t12_2]) (by kernel_rfl) ?_ ?_ rfl hS ⟨hBw8_w, hBw8_w8⟩ ?_ ?_
    · exact fun x y hI hb => ⟨below_step hI.1 hb, below_step hI.2 hb⟩
    · exact .v (.cons (Stays.r _ _ _ _) (.v (.cons (Stays.t _ (Stays.c _ _)) (.cons (Stays.t _ (Stays.c _ _)) (.cons (Stays.c _ _) (.v (.cons (Stays.c _ _) (.v (.nil)))))))))
    · refine .ms 1 rfl rfl rfl ?_
      refine .on rfl (fun a w hS hI hp => does_call (by kernel_rfl) (ar1 (hp.V 0 rfl rfl)) ((carillonlaw00_Bytes.calls _ _ l0 t11 _ (Kd.C_below HR0 hI.1) HC0 At11).mono fun _ _ h => h.elim fun v0 h => ⟨v0, h.1, h.2.2, Kd.R_lower h.2.1 hI.2.size⟩)) ?_
      refine .ms 2 rfl rfl rfl ?_
      refine .on rfl (fun a w hS hI hp => (IsC.of_r (hp.V 1 rfl rfl)).elim fun A_ h_ => h_.elim fun c_ h_ => h_.elim fun hv_ h_ => h_.elim fun hl_ hc_ => does_call (by kernel_rfl) (ar2 (hv_) (hp.V 2 rfl rfl)) ((tlv_Put.calls k _ _ t11 _ _ l1 t12_1 t12_2 _ hc_ hl_ (Kd.C_below HR1 hI.1) HC1 At12).mono fun _ _ h => h.elim fun v0 h => ⟨_, h.1, h.2.2, v0, rfl, h.2.1⟩)) ?_
      refine .on rfl (fun a w hS hI hp => does_val (x_move rfl rfl) (hp.V 3 rfl rfl)) ?_
      refine .on rfl (fun a w hS hI hp => (hp.V 4 rfl rfl).elim fun v0 h0 => does_val (x_extract rfl h0.1 rfl) h0.2) ?_
      refine .on rfl (fun a w hS hI hp => (hp.V 4 rfl rfl).elim fun v0 h0 => does_val (x_extract rfl h0.1 rfl) rfl) ?_
      refine .on rfl (fun a w hS hI hp => does_val (x_assign rfl rfl) (hp.V 5 rfl rfl)) ?_
      refine .asg 6 rfl rfl rfl rfl ?_
      exact .nil
    clear hS
    intro at13 w14 hS hI hp
    have hBw14_w := hI.1
    have hBw14_w8 := hI.2
    replace hS := (((((hS.nil).cons (hS.get 5 rfl)).cons (hS.get 4 rfl)).cons (hS.get 3 rfl)).cons (hS.get 2 rfl)).cons (hS.get 1 rfl)
    obtain ⟨A15, C15, hv11, hl15, hc15⟩ := (show IsC (Kd.int .u8) t12_1 (sl _ 11) w14 from hp 7 (by decide))
    have hv12 : sl _ 12 = .bool t12_2 := hp 8 (by decide)
    have hBw14_w14 := Below.refl w14.heap.size w14
    have hS := hS.cons hv11
    have hS := hS.cons hv12
    clear hp hI hv11 hv12
    refine hK10 _ _ ?_
    (try clear hK10 K10)
    refine wp_seq_k (fun K16 hK16 => ?_)
    refine reg_seq (N := 173) (bs := [(12, .bool t12_2), (11, .slice A15 t12_1.length C15), (0, .slice A0 l0.length cp0), (1, .slice A1 l1.length cp1), (2, .slice A2 l2.length cp2), (3, .int .i64 a3), (4, .string a4)]) (I := fun x => Below w.heap.size w x ∧ Below w14.heap.size w14 x) (ps := [VB t12_2]) (by kernel_rfl) ?_ ?_ rfl hS ⟨hBw14_w, hBw14_w14⟩ ?_ ?_
    · exact fun x y hI hb => ⟨below_step hI.1 hb, below_step hI.2 hb⟩
    · exact .v (.nil)
    · refine .ms 0 rfl rfl rfl ?_
      exact .nil
    clear hS
    intro at17 w18 hS hI hp
    have hBw18_w := hI.1
    have hBw18_w14 := hI.2
    replace hS := ((((((hS.nil).cons (hS.get 6 rfl)).cons (hS.get 5 rfl)).cons (hS.get 4 rfl)).cons (hS.get 3 rfl)).cons (hS.get 2 rfl)).cons (hS.get 1 rfl)
    have hv47 : sl _ 47 = .bool t12_2 := hp 0 (by decide)
    have hBw18_w18 := Below.refl w18.heap.size w18
    have hS := hS.cons hv47
    clear hp hI hv47
    refine hK16 _ _ ?_
    (try clear hK16 K16)
    refine wp_cond_false ((hS.get 0 rfl).trans (bF (Bool.eq_false_iff.2 c3))) ?_
    refine wp_skip ?_
    replace hS := (((hS.nil).cons (hS.get 6 rfl)).cons (hS.get 5 rfl)).cons (hS.get 4 rfl)
    (try simp only [Exit.then, Exit.inBlock])
    exact J1 _ _ l2 A2 cp2 a3 a4 H hS hBw18_w HC2 (HR2)
  rw [if_pos c3] at H
  obtain ⟨t20, At20, H⟩ := Option.bind_eq_some_iff.mp H
  obtain ⟨t20_1, t20_2⟩ := t20
  (try dsimp only at H)
  by_cases c4 : t20_2 = 0
  rotate_left
  · rw [if_neg c4] at H
    exact absurd H (by simp)
  rw [if_pos c4] at H
  obtain ⟨t25, At25, H⟩ := Option.bind_eq_some_iff.mp H
  by_cases c5 : t25 = true
  rotate_left
  · rw [if_neg c5] at H
    exact absurd H (by simp)
  rw [if_pos c5] at H
  refine wp_seq_k (fun K10 hK10 => ?_)
  refine reg_seq (N := 173) (bs := [(38, .bool (decide ((a4.size : Int) > 300))), (0, .slice A0 l0.length cp0), (1, .slice A1 l1.length cp1), (2, .slice A2 l2.length cp2), (3, .int .i64 a3), (4, .string a4)]) (I := fun x => Below w.heap.size w x ∧ Below w8.heap.size w8 x) (ps := [IsV (.slice A0 l0.length cp0), IsR (Kd.int .u8) 5 w8.heap.size t11, IsV (.slice A1 l1.length cp1), IsT (fun v0_ => #[v0_, .bool t12_2]) (IsC (Kd.int .u8) t12_1), IsT (fun v0_ => #[v0_, .bool t12_2]) (IsC (Kd.int .u8) t12_1), IsC (Kd.int .u8) t12_1, VB t12_2, IsC (Kd.int .u8) t12_1, VB t12_2]) (by kernel_rfl) ?_ ?_ rfl hS ⟨hBw8_w, hBw8_w8⟩ ?_ ?_
  · exact fun x y hI hb => ⟨below_step hI.1 hb, below_step hI.2 hb⟩
  · exact .v (.cons (Stays.r _ _ _ _) (.v (.cons (Stays.t _ (Stays.c _ _)) (.cons (Stays.t _ (Stays.c _ _)) (.cons (Stays.c _ _) (.v (.cons (Stays.c _ _) (.v (.nil)))))))))
  · refine .ms 1 rfl rfl rfl ?_
    refine .on rfl (fun a w hS hI hp => does_call (by kernel_rfl) (ar1 (hp.V 0 rfl rfl)) ((carillonlaw00_Bytes.calls _ _ l0 t11 _ (Kd.C_below HR0 hI.1) HC0 At11).mono fun _ _ h => h.elim fun v0 h => ⟨v0, h.1, h.2.2, Kd.R_lower h.2.1 hI.2.size⟩)) ?_
    refine .ms 2 rfl rfl rfl ?_
    refine .on rfl (fun a w hS hI hp => (IsC.of_r (hp.V 1 rfl rfl)).elim fun A_ h_ => h_.elim fun c_ h_ => h_.elim fun hv_ h_ => h_.elim fun hl_ hc_ => does_call (by kernel_rfl) (ar2 (hv_) (hp.V 2 rfl rfl)) ((tlv_Put.calls k _ _ t11 _ _ l1 t12_1 t12_2 _ hc_ hl_ (Kd.C_below HR1 hI.1) HC1 At12).mono fun _ _ h => h.elim fun v0 h => ⟨_, h.1, h.2.2, v0, rfl, h.2.1⟩)) ?_
    refine .on rfl (fun a w hS hI hp => does_val (x_move rfl rfl) (hp.V 3 rfl rfl)) ?_
    refine .on rfl (fun a w hS hI hp => (hp.V 4 rfl rfl).elim fun v0 h0 => does_val (x_extract rfl h0.1 rfl) h0.2) ?_
    refine .on rfl (fun a w hS hI hp => (hp.V 4 rfl rfl).elim fun v0 h0 => does_val (x_extract rfl h0.1 rfl) rfl) ?_
    refine .on rfl (fun a w hS hI hp => does_val (x_assign rfl rfl) (hp.V 5 rfl rfl)) ?_
    refine .asg 6 rfl rfl rfl rfl ?_
    exact .nil
  clear hS
  intro at13 w14 hS hI hp
  have hBw14_w := hI.1
  have hBw14_w8 := hI.2
  replace hS := (((((hS.nil).cons (hS.get 5 rfl)).cons (hS.get 4 rfl)).cons (hS.get 3 rfl)).cons (hS.get 2 rfl)).cons (hS.get 1 rfl)
  obtain ⟨A15, C15, hv11, hl15, hc15⟩ := (show IsC (Kd.int .u8) t12_1 (sl _ 11) w14 from hp 7 (by decide))
  have hv12 : sl _ 12 = .bool t12_2 := hp 8 (by decide)
  have hBw14_w14 := Below.refl w14.heap.size w14
  have hS := hS.cons hv11
  have hS := hS.cons hv12
  clear hp hI hv11 hv12
  refine hK10 _ _ ?_
  (try clear hK10 K10)
  refine wp_seq_k (fun K16 hK16 => ?_)
  refine reg_seq (N := 173) (bs := [(12, .bool t12_2), (11, .slice A15 t12_1.length C15), (0, .slice A0 l0.length cp0), (1, .slice A1 l1.length cp1), (2, .slice A2 l2.length cp2), (3, .int .i64 a3), (4, .string a4)]) (I := fun x => Below w.heap.size w x ∧ Below w14.heap.size w14 x) (ps := [VB t12_2]) (by kernel_rfl) ?_ ?_ rfl hS ⟨hBw14_w, hBw14_w14⟩ ?_ ?_
  · exact fun x y hI hb => ⟨below_step hI.1 hb, below_step hI.2 hb⟩
  · exact .v (.nil)
  · refine .ms 0 rfl rfl rfl ?_
    exact .nil
  clear hS
  intro at17 w18 hS hI hp
  have hBw18_w := hI.1
  have hBw18_w14 := hI.2
  replace hS := ((((((hS.nil).cons (hS.get 6 rfl)).cons (hS.get 5 rfl)).cons (hS.get 4 rfl)).cons (hS.get 3 rfl)).cons (hS.get 2 rfl)).cons (hS.get 1 rfl)
  have hv47 : sl _ 47 = .bool t12_2 := hp 0 (by decide)
  have hBw18_w18 := Below.refl w18.heap.size w18
  have hS := hS.cons hv47
  clear hp hI hv47
  refine hK16 _ _ ?_
  (try clear hK16 K16)
  refine wp_cond_true ((hS.get 0 rfl).trans (bT c3)) ?_
  refine wp_seq_k (fun K19 hK19 => ?_)
  refine reg_seq (N := 173) (bs := [(47, .bool t12_2), (11, .slice A15 t12_1.length C15), (0, .slice A0 l0.length cp0), (1, .slice A1 l1.length cp1), (2, .slice A2 l2.length cp2), (3, .int .i64 a3), (4, .string a4)]) (I := fun x => Below w.heap.size w x ∧ Below w14.heap.size w14 x ∧ Below w18.heap.size w18 x) (ps := [IsV (.slice A15 t12_1.length C15), IsV (.slice A0 l0.length cp0), VI (l0.length : Int), IsT (fun v0_ => #[v0_, .int .i64 t20_2]) (IsR k26 26 w18.heap.size t20_1), IsT (fun v0_ => #[v0_, .int .i64 t20_2]) (IsR k26 26 w18.heap.size t20_1), IsR k26 26 w18.heap.size t20_1, VI t20_2, IsR k26 26 w18.heap.size t20_1, VI t20_2]) (by kernel_rfl) ?_ ?_ rfl hS ⟨hBw18_w, hBw18_w14, hBw18_w18⟩ ?_ ?_
  · exact fun x y hI hb => ⟨below_step hI.1 hb, below_step hI.2.1 hb, below_step hI.2.2 hb⟩
  · exact .v (.v (.v (.cons (Stays.t _ (Stays.r _ _ _ _)) (.cons (Stays.t _ (Stays.r _ _ _ _)) (.cons (Stays.r _ _ _ _) (.v (.cons (Stays.r _ _ _ _) (.v (.nil)))))))))
  · refine .ms 1 rfl rfl rfl ?_
    refine .ms 2 rfl rfl rfl ?_
    refine .on rfl (fun a w hS hI hp => does_val (x_len (e := 5) rfl (by kernel_rfl) (hp.V 1 rfl rfl)) rfl) ?_
    refine .on rfl (fun a w hS hI hp => does_call (by kernel_rfl) (ar2 (hp.V 0 rfl rfl) (hp.V 2 rfl rfl)) ((tlv_Get.calls k _ _ t12_1 (l0.length : Int) t20_1 t20_2 _ (Kd.C_below hc15 hI.2.1) hl15 At20).mono fun _ _ h => h.elim fun v0 h => ⟨_, h.1, h.2.2, v0, rfl, Kd.R_lower h.2.1 hI.2.2.size⟩)) ?_
    refine .on rfl (fun a w hS hI hp => does_val (x_move rfl rfl) (hp.V 3 rfl rfl)) ?_
    refine .on rfl (fun a w hS hI hp => (hp.V 4 rfl rfl).elim fun v0 h0 => does_val (x_extract rfl h0.1 rfl) h0.2) ?_
    refine .on rfl (fun a w hS hI hp => (hp.V 4 rfl rfl).elim fun v0 h0 => does_val (x_extract rfl h0.1 rfl) rfl) ?_
    refine .on rfl (fun a w hS hI hp => does_val (x_assign rfl rfl) (hp.V 5 rfl rfl)) ?_
    refine .asg 6 rfl rfl rfl rfl ?_
    exact .nil
  clear hS
  intro at21 w22 hS hI hp
  have hBw22_w := hI.1
  have hBw22_w14 := hI.2.1
  have hBw22_w18 := hI.2.2
  replace hS := ((((hS.nil).cons (hS.get 6 rfl)).cons (hS.get 5 rfl)).cons (hS.get 4 rfl)).cons (hS.get 3 rfl)
  obtain ⟨A23, C23, hv13, hl23, hc23⟩ := Kd.R_reads (show Kd.R k26 26 w22 w18.heap.size (fun _ => True) (sl _ 13) t20_1 from hp 7 (by decide))
  have ho23 : Kd.R k26 26 w22 w18.heap.size (fun _ => True) (.slice A23 t20_1.length C23) t20_1 := hv13 ▸ (hp 7 (by decide))
  have hv14 : sl _ 14 = .int .i64 t20_2 := hp 8 (by decide)
  have hBw22_w22 := Below.refl w22.heap.size w22
  have hS := hS.cons hv13
  have hS := hS.cons hv14
  clear hp hI hv13 hv14
  refine hK19 _ _ ?_
  (try clear hK19 K19)
  refine wp_seq_k (fun K24 hK24 => ?_)
  refine reg_seq (N := 173) (bs := [(14, .int .i64 t20_2), (13, .slice A23 t20_1.length C23), (1, .slice A1 l1.length cp1), (2, .slice A2 l2.length cp2), (3, .int .i64 a3), (4, .string a4)]) (I := fun x => Below w.heap.size w x ∧ Below w18.heap.size w18 x ∧ Below w22.heap.size w22 x) (ps := [VI t20_2, VB (!decide (t20_2 = 0)), VB (!decide (t20_2 = 0)), IsV (.slice A23 t20_1.length C23), IsV (.slice A1 l1.length cp1), VB t25, VB (!t25), VB (!t25)]) (by kernel_rfl) ?_ ?_ rfl hS ⟨hBw22_w, hBw22_w18, hBw22_w22⟩ ?_ ?_
  · exact fun x y hI hb => ⟨below_step hI.1 hb, below_step hI.2.1 hb, below_step hI.2.2 hb⟩
  · exact .v (.v (.v (.v (.v (.v (.v (.v (.nil))))))))
  · refine .ms 0 rfl rfl rfl ?_
    refine .on rfl (fun a w hS hI hp => does_val (x_bin rfl (hp.V 0 rfl rfl) (rfl) (b_neq _ _ _ _ _ _)) rfl) ?_
    refine .mv 1 rfl rfl rfl rfl ?_
    refine .oy 2 57 rfl rfl rfl rfl rfl ((congrArg (!·) (decide_eq_true c4))) (fun a w hS hI hp => does_val (x_move rfl (hS.get 1 rfl)) rfl) ?_
    refine .oy 2 57 rfl rfl rfl rfl rfl ((congrArg (!·) (decide_eq_true c4))) (fun a w hS hI hp => does_val (x_move rfl (hS.get 2 rfl)) rfl) ?_
    refine .oy 2 57 rfl rfl rfl rfl rfl ((congrArg (!·) (decide_eq_true c4))) (fun a w hS hI hp => does_call (by kernel_rfl) (ar2 (hp.V 3 rfl rfl) (hp.V 4 rfl rfl)) ((carillonlaw00_SameTlvs.calls k _ _ t20_1 _ _ l1 t25 _ (Kd.C_below hc23 hI.2.2) hl23 (Kd.C_below HR1 hI.1) HC1 At25).mono fun _ _ h => ⟨_, h.1, h.2.below, rfl⟩)) ?_
    refine .oy 2 57 rfl rfl rfl rfl rfl ((congrArg (!·) (decide_eq_true c4))) (fun a w hS hI hp => does_val (x_not rfl (hp.V 5 rfl rfl)) rfl) ?_
    refine .on rfl (fun a w hS hI hp => does_val (x_pickF rfl ((hp.V 2 rfl rfl).trans (bF (congrArg (!·) (decide_eq_true c4)))) (hp.V 6 rfl rfl)) rfl) ?_
    exact .nil
  clear hS
  intro at26 w27 hS hI hp
  have hBw27_w := hI.1
  have hBw27_w18 := hI.2.1
  have hBw27_w22 := hI.2.2
  replace hS := (((hS.nil).cons (hS.get 5 rfl)).cons (hS.get 4 rfl)).cons (hS.get 3 rfl)
  have hv62 : sl _ 62 = .bool (!t25) := hp 7 (by decide)
  have hBw27_w27 := Below.refl w27.heap.size w27
  have hS := hS.cons hv62
  clear hp hI hv62
  refine hK24 _ _ ?_
  (try clear hK24 K24)
  refine wp_cond_false ((hS.get 0 rfl).trans (bF (congrArg (!·) c5))) ?_
  refine wp_skip ?_
  replace hS := (((hS.nil).cons (hS.get 3 rfl)).cons (hS.get 2 rfl)).cons (hS.get 1 rfl)
  (try simp only [Exit.then, Exit.inBlock])
  exact J1 _ _ l2 A2 cp2 a3 a4 H hS hBw27_w HC2 (HR2)
def carillonlaw08_TlvBack.Pure : Prop := ∀ (l0 : List Int) (l1 : List (S26)) (l2 : List Int) (a3 : Int) (a4 : ByteArray), l0.length ≤ maxLen → l0.length * 1 ≤ 140737488351232 → (∀ x ∈ l0, (Lit.int .u8 x).wf = true) → l1.length ≤ maxLen → l1.length * 24 ≤ 140737488351232 → (∀ x ∈ l1, (Lit.int .i64 x.f0).wf = true ∧ x.f1.size ≤ 9223372036854775807) → l2.length ≤ maxLen → l2.length * 8 ≤ 140737488351232 → (∀ x ∈ l2, (Lit.int .u64 x).wf = true) → (Lit.int .i64 a3).wf = true → a4.size ≤ 140737488351232 → ∃ k, carillonlaw08_TlvBack.f k l0 l1 l2 a3 a4 = some true
theorem carillonlaw08_TlvBack.walk (P : carillonlaw08_TlvBack.Pure) (a0 : Option Addr) (len0 cap0 : Nat) (z0 : List Int) (a1 : Option Addr) (cap1 : Nat) (l1 : List (S26)) (a2 : Option Addr) (len2 cap2 : Nat) (z2 : List Int) (a3 : Int) (a4 : ByteArray) (w : World) (w0 : (a0 = none ∧ len0 = 0 ∧ cap0 = 0 ∧ z0 = []) ∨ ∃ x, a0 = some x ∧ len0 ≤ cap0 ∧ cap0 ≤ maxLen ∧ z0.length = cap0 ∧ (∀ i, i < z0.length → w.cell? (x.add i) = some (.int .u8 (z0.getD i 0))) ∧ ∀ n ∈ z0, (Lit.int .u8 n).wf = true) (y0 : len0 * 1 ≤ 140737488351232) (hr1 : Kd.C k26 w a1 l1.length l1) (hc1 : l1.length ≤ cap1) (hm1 : l1.length ≤ maxLen) (y1 : l1.length * 24 ≤ 140737488351232) (hw1 : (∀ x ∈ l1, (Lit.int .i64 x.f0).wf = true ∧ x.f1.size ≤ 9223372036854775807)) (w2 : (a2 = none ∧ len2 = 0 ∧ cap2 = 0 ∧ z2 = []) ∨ ∃ x, a2 = some x ∧ len2 ≤ cap2 ∧ cap2 ≤ maxLen ∧ z2.length = cap2 ∧ (∀ i, i < z2.length → w.cell? (x.add i) = some (.int .u64 (z2.getD i 0))) ∧ ∀ n ∈ z2, (Lit.int .u64 n).wf = true) (y2 : len2 * 8 ≤ 140737488351232) (w3 : (Lit.int .i64 a3).wf = true) (w4 : a4.size ≤ 140737488351232) :
    Calls Try.prog 9 #[.slice a0 len0 cap0, .slice a1 l1.length cap1, .slice a2 len2 cap2, .int .i64 a3, .string a4] w fun e w' => e = .returned (.bool true) ∧ Below w.heap.size w w' := by
  obtain ⟨l0, rfl, hr0, hm0, hw0, hc0⟩ := ReadsInt.ofRowC w0
  obtain ⟨l2, rfl, hr2, hm2, hw2, hc2⟩ := ReadsInt.ofRowC w2
  obtain ⟨k, h⟩ := P l0 l1 l2 a3 a4 hm0 y0 hw0 hm1 y1 hw1 hm2 y2 hw2 w3 w4
  refine (carillonlaw08_TlvBack.calls k _ _ l0 a1 cap1 l1 _ _ l2 a3 a4 w (Kd.C_of_reads (d := (0 : Int)) (h1 := fun _ => rfl) hr0) hc0 hr1 hc1 (Kd.C_of_reads (d := (0 : Int)) (h1 := fun _ => rfl) hr2) hc2 h).mono ?_
  rintro e w' ⟨rfl, hd⟩
  exact ⟨rfl, hd⟩
end Go.Proofs.Ytgmiokocipmbaaa.P
