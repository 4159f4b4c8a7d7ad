/- Functions and loops of the given program as Lean functions, and that the code comes to what they say: written by this session's own program; Lean checks it. -/
import Derived.Test.YtmfahcabdkajnaaPx0
import Derived.Test.YtmfahcabdkajnaaPx3
import Derived.Test.YtmfahcabdkajnaaPx6
import Derived.Test.YtmfahcabdkajnaaPx8
import Derived.Test.YtmfahcabdkajnaaPx9
import Derived.Test.YtmfahcabdkajnaaPx10
namespace Go.Proofs.Ytmfahcabdkajnaa.P
open Go.RowKit Go.Proofs.YtmfahcabdkajnaaW.PrintWords Go.Proofs.YtmfahcabdkajnaaW.PrintLast Go.Proofs.YtmfahcabdkajnaaW.PrintMore
attribute [local go_sem] max2_int min2_int max_two min_two max_three min_three max_four min_four   -- for this text's walks alone
set_option linter.unusedVariables false
set_option linter.unusedSimpArgs false

/-! ### carillonlaw05_QualityBytes: function 8: by our own printer -/
def carillonlaw05_QualityBytes.f (k : Nat) (l0 : List Int) (a1_0 : Int) (a1_1 : Int) (a1_2 : Int) (a2 : Int) : Option (Bool) := if l0.length * 1 ≤ 140737488355328 then (if (l0.length + [99].length) * 1 ≤ 140737488355328 then (if 0 ≤ (l0.length : Int) then (if (l0.length : Int) ≤ ((l0 ++ [99] : List Int).length : Int) then ((quality_Get.f k ((l0 ++ [99] : List Int).take ((l0.length : Int) : Int).toNat) a2).bind fun t17 => ((carillonref05_Get.f k l0 a2).bind fun t24 => ((quality_Put.f ((l0 ++ [99] : List Int).take ((l0.length : Int) : Int).toNat) a1_0 a1_1 a1_2).bind fun t32 => ((carillonref05_Put.f k a1_0 a1_1 a1_2).bind fun t33 => (if (strOfNums l0).size + (strOfNums t33).size ≤ 9223372036854775807 then (if ((strOfNums t32).toList == ((strOfNums l0) ++ (strOfNums t33)).toList) = true then ((quality_May.f a1_0 a1_1 a1_2).bind fun t34 => ((carillonref05_May.f a1_0 a1_1 a1_2).bind fun t35 => (if (t34 == t35) = true then (if ((t17.1 == t24.1) && ((t17.2.1 == t24.2.1) && (t17.2.2.1 == t24.2.2.1))) = true then (if (t17.2.2.2 == t24.2.2.2) = true then ((quality_May.f a1_0 a1_1 a1_2).bind fun t40 => (if t40 = true then ((quality_Put.f [] a1_0 a1_1 a1_2).bind fun t44 => ((quality_Get.f k t44 0).bind fun t45 => (if t45.2.2.2 = true then (if ((t45.1 == a1_0) && ((t45.2.1 == a1_1) && (t45.2.2.1 == a1_2))) = true then (if 0 ≤ (wrap64 ((l0.length : Int) + 1)) then (if (wrap64 ((l0.length : Int) + 1)) ≤ ((l0 ++ [99] : List Int).length : Int) then (if (l0.length : Int) < (((l0 ++ [99] : List Int).take (wrap64 ((l0.length : Int) + 1) : Int).toNat).length : Int) then (if (l0.length : Int) < ((l0 ++ [99] : List Int).length : Int) then (if (rd (l0 ++ [99] : List Int) (l0.length : Int)) = 99 then ((carillonlaw05_awake.f k ).bind fun t52 => (some t52)) else (some false)) else (none)) else (none)) else (none)) else (none)) else (some false)) else (some false)))) else ((carillonlaw05_awake.f k ).bind fun t44 => (some t44)))) else (some false)) else (some false)) else (some false)))) else (some false)) else (none)))))) else (none)) else (none)) else (none)) else (none)
open Go.Proofs.Ytmfahcabdkajnaa.E in
set_option maxRecDepth 100000 in
theorem carillonlaw05_QualityBytes.eql26 (x y : Operand) (w : World) (a0 a1 a2 b0 b1 b2 : Int) : (do eqGuard .eql 26 x y (.agg #[.int .i64 a0, .int .i64 a1, .int .i64 a2]) (.agg #[.int .i64 b0, .int .i64 b1, .int .i64 b2]); binOp .eql 26 (.agg #[.int .i64 a0, .int .i64 a1, .int .i64 a2]) (.agg #[.int .i64 b0, .int .i64 b1, .int .i64 b2]) : Sem Value).run Try.prog w = .ok (.bool ((a0 == b0) && ((a1 == b1) && (a2 == b2)))) w := by
  have hu3 := Try.underlying3
  have hu26 := Try.underlying26
  conv => lhs; simp [eqGuard, go_sem, hu3, hu26]
  exact ite_and (ite_and (ite_last))
open Go.Proofs.Ytmfahcabdkajnaa.E in
set_option maxRecDepth 100000 in
theorem carillonlaw05_QualityBytes.neq26 (x y : Operand) (w : World) (a0 a1 a2 b0 b1 b2 : Int) : (do eqGuard .neq 26 x y (.agg #[.int .i64 a0, .int .i64 a1, .int .i64 a2]) (.agg #[.int .i64 b0, .int .i64 b1, .int .i64 b2]); binOp .neq 26 (.agg #[.int .i64 a0, .int .i64 a1, .int .i64 a2]) (.agg #[.int .i64 b0, .int .i64 b1, .int .i64 b2]) : Sem Value).run Try.prog w = .ok (.bool (!((a0 == b0) && ((a1 == b1) && (a2 == b2))))) w := by
  have hu3 := Try.underlying3
  have hu26 := Try.underlying26
  conv => lhs; simp [eqGuard, go_sem, hu3, hu26]
  exact ite_nand (ite_nand (ite_nlast))
open Go.Proofs.Ytmfahcabdkajnaa.E in
set_option maxHeartbeats 8000000 in
set_option maxRecDepth 100000 in
theorem carillonlaw05_QualityBytes.calls (k : Nat) (A0 : Option Addr) (c0 : Nat) (l0 : List Int) (a1_0 : Int) (a1_1 : Int) (a1_2 : Int) (a2 : Int) (w : World) (HR0 : Kd.C (Kd.int .u8) w A0 l0.length l0) (HC0 : l0.length ≤ c0) (h : carillonlaw05_QualityBytes.f k l0 a1_0 a1_1 a1_2 a2 = some true) :
    Calls Try.prog 8 #[.slice A0 l0.length c0, .agg #[.int .i64 a1_0, .int .i64 a1_1, .int .i64 a1_2], .int .i64 a2] w fun e w' => e = .returned (.bool true) ∧ Below w.heap.size w w' := by
  have H := h
  clear h
  unfold carillonlaw05_QualityBytes.f at H
  by_cases c1 : l0.length * 1 ≤ 140737488355328
  · rw [if_pos c1] at H
    by_cases c2 : (l0.length + [99].length) * 1 ≤ 140737488355328
    · rw [if_pos c2] at H
      by_cases c3 : 0 ≤ (l0.length : Int)
      · rw [if_pos c3] at H
        by_cases c4 : (l0.length : Int) ≤ ((l0 ++ [99] : List Int).length : Int)
        · rw [if_pos c4] at H
          obtain ⟨t17, At17, H⟩ := Option.bind_eq_some_iff.mp H
          obtain ⟨t17_1, t17_2, t17_3, t17_4⟩ := t17
          (try dsimp only at H)
          obtain ⟨t24, At24, H⟩ := Option.bind_eq_some_iff.mp H
          obtain ⟨t24_1, t24_2, t24_3, t24_4⟩ := t24
          (try dsimp only at H)
          obtain ⟨t32, At32, H⟩ := Option.bind_eq_some_iff.mp H
          obtain ⟨t33, At33, H⟩ := Option.bind_eq_some_iff.mp H
          by_cases c5 : (strOfNums l0).size + (strOfNums t33).size ≤ 9223372036854775807
          · rw [if_pos c5] at H
            by_cases c6 : ((strOfNums t32).toList == ((strOfNums l0) ++ (strOfNums t33)).toList) = true
            · rw [if_pos c6] at H
              obtain ⟨t34, At34, H⟩ := Option.bind_eq_some_iff.mp H
              obtain ⟨t35, At35, H⟩ := Option.bind_eq_some_iff.mp H
              by_cases c7 : (t34 == t35) = true
              · rw [if_pos c7] at H
                by_cases c8 : ((t17_1 == t24_1) && ((t17_2 == t24_2) && (t17_3 == t24_3))) = true
                · rw [if_pos c8] at H
                  by_cases c9 : (t17_4 == t24_4) = true
                  · rw [if_pos c9] at H
                    obtain ⟨t40, At40, H⟩ := Option.bind_eq_some_iff.mp H
                    by_cases c10 : t40 = true
                    · rw [if_pos c10] at H
                      obtain ⟨t44, At44, H⟩ := Option.bind_eq_some_iff.mp H
                      obtain ⟨t45, At45, H⟩ := Option.bind_eq_some_iff.mp H
                      obtain ⟨t45_1, t45_2, t45_3, t45_4⟩ := t45
                      (try dsimp only at H)
                      by_cases c11 : t45_4 = true
                      · rw [if_pos c11] at H
                        by_cases c12 : ((t45_1 == a1_0) && ((t45_2 == a1_1) && (t45_3 == a1_2))) = true
                        · rw [if_pos c12] at H
                          by_cases c13 : 0 ≤ (wrap64 ((l0.length : Int) + 1))
                          · rw [if_pos c13] at H
                            by_cases c14 : (wrap64 ((l0.length : Int) + 1)) ≤ ((l0 ++ [99] : List Int).length : Int)
                            · rw [if_pos c14] at H
                              by_cases c15 : (l0.length : Int) < (((l0 ++ [99] : List Int).take (wrap64 ((l0.length : Int) + 1) : Int).toNat).length : Int)
                              · rw [if_pos c15] at H
                                by_cases c16 : (l0.length : Int) < ((l0 ++ [99] : List Int).length : Int)
                                · rw [if_pos c16] at H
                                  by_cases c17 : (rd (l0 ++ [99] : List Int) (l0.length : Int)) = 99
                                  · rw [if_pos c17] at H
                                    obtain ⟨t52, At52, H⟩ := Option.bind_eq_some_iff.mp H
                                    have hret := Option.some.inj H
                                    clear H
                                    refine calls_of_wp (fn := Try.f8) (by kernel_rfl) rfl ?_
                                    have hS := St.enter #[.slice A0 l0.length c0, .agg #[.int .i64 a1_0, .int .i64 a1_1, .int .i64 a1_2], .int .i64 a2] 92 (by simp) [(0, .slice A0 l0.length c0), (1, .agg #[.int .i64 a1_0, .int .i64 a1_1, .int .i64 a1_2]), (2, .int .i64 a2)] (by simp)
                                    have HB0 := Below.refl w.heap.size w
                                    refine wp_seq_k (fun K1 hK1 => ?_)
                                    refine reg_seq (N := 92) (bs := [(0, .slice A0 l0.length c0), (1, .agg #[.int .i64 a1_0, .int .i64 a1_1, .int .i64 a1_2]), (2, .int .i64 a2)]) (I := fun x => Below w.heap.size w x) (ps := [IsB #[.int .i64 a1_0, .int .i64 a1_1, .int .i64 a1_2] 26 w.heap.size, IsV (.bool false)]) (by kernel_rfl) ?_ ?_ rfl hS HB0 ?_ ?_
                                    · exact fun x y hI hb => below_step hI hb
                                    · exact AllStay.cons (Stays.b _ _ _) (AllStay.cons (Stays.v _) (AllStay.nil))
                                    · refine Steps.cons (fun a w hS hI hp => ok_on rfl (does_var (x_box rfl (congrArg Value.cells (hS.get 1 rfl))) (hI).size)) ?_
                                      refine Steps.cons (fun a w hS hI hp => ok_on rfl (does_val (x_assign rfl (rfl)) rfl)) ?_
                                      exact Steps.nil
                                    clear hS
                                    intro at2 w3 hS hI hp
                                    have hBw3_w := hI
                                    obtain ⟨g4, hv4, hgeg4, hbxg4⟩ := (show IsB _ 26 _ (sl _ 4) _ from hp 0 (by decide))
                                    have hv6 : sl _ 6 = .bool false := hp 1 (by decide)
                                    have hBw3_w3 := Below.refl w3.heap.size w3
                                    have hS := hS.cons hv4
                                    have hS := hS.cons hv6
                                    clear hp hI hv4 hv6
                                    refine hK1 _ _ ?_
                                    clear hK1 K1
                                    refine wp_seq_k (fun K5 hK5 => ?_)
                                    refine reg_seq_tail 3 (N := 92) (bs := [(6, .bool false), (4, .pointer (some ⟨g4, 0, none⟩)), (0, .slice A0 l0.length c0), (1, .agg #[.int .i64 a1_0, .int .i64 a1_1, .int .i64 a1_2]), (2, .int .i64 a2)]) (I := fun x => Below w.heap.size w x ∧ Below w3.heap.size w3 x) (ps := [IsV (.slice A0 l0.length c0), IsR (Kd.int .u8) 5 w3.heap.size l0, IsR (Kd.int .u8) 5 w3.heap.size [99]]) (by kernel_rfl) ?_ ?_ rfl hS ⟨hBw3_w, hBw3_w3⟩ ?_ ?_
                                    · exact fun x y hI hb => ⟨below_step hI.1 hb, below_step hI.2 hb⟩
                                    · exact AllStay.cons (Stays.v _) (AllStay.cons (Stays.r _ _ _ _) (AllStay.cons (Stays.r _ _ _ _) (AllStay.nil)))
                                    · refine Steps.cons (fun a w hS hI hp => ok_on rfl (does_val (x_move rfl (hS.get 2 rfl)) rfl)) ?_
                                      refine Steps.cons (fun a w hS hI hp => ok_on rfl (does_copy w3.heap.size _ (.tmp 14) 31 5 1 rfl (by kernel_rfl) (by kernel_rfl) (by decide) l0 _ _ (rfl) ((hp.get 0 (by rfl) rfl rfl)) ((Kd.C_below HR0 hI.1)) (hI.2).size c1)) ?_
                                      refine Steps.cons (fun a w hS hI hp => ok_on rfl (does_lit w3.heap.size 31 5 1 _ [(0, .int .u8 99)] [99] rfl (by kernel_rfl) (by rw [Array.toList_map]; exact (show [(0, a.eval (.const (.int .u8 99)))] = _ from (li_cons (rfl) rfl))) (by kernel_rfl) rfl (hI.2).size (by decide))) ?_
                                      exact Steps.nil
                                    clear hS
                                    intro at6 w7 hS hI hp
                                    have hBw7_w := hI.1
                                    have hBw7_w3 := hI.2
                                    obtain ⟨A8, C8, hv15, hl8, hc8⟩ := Kd.R_reads (show Kd.R (Kd.int .u8) 5 w7 w3.heap.size (fun _ => True) (sl _ 15) l0 from hp 1 (by decide))
                                    have ho8 : Kd.R (Kd.int .u8) 5 w7 w3.heap.size (fun _ => True) (.slice A8 l0.length C8) l0 := hv15 ▸ (hp 1 (by decide))
                                    obtain ⟨A9, C9, hv16, hl9, hc9⟩ := Kd.R_reads (show Kd.R (Kd.int .u8) 5 w7 w3.heap.size (fun _ => True) (sl _ 16) [99] from hp 2 (by decide))
                                    have ho9 : Kd.R (Kd.int .u8) 5 w7 w3.heap.size (fun _ => True) (.slice A9 [99].length C9) [99] := hv16 ▸ (hp 2 (by decide))
                                    have hBw7_w7 := Below.refl w7.heap.size w7
                                    have hS := hS.cons hv15
                                    have hS := hS.cons hv16
                                    clear hp hI hv15 hv16
                                    show wpList _ _ _ [_, _, _, _, _] _ _
                                    refine list_step rfl (does_more (W := w3) (.tmp 15) (.tmp 16) 31 5 1 rfl (by kernel_rfl) (by kernel_rfl) (by decide) _ l0 [99] _ _ (hS.get 1 rfl) (hS.get 0 rfl) (Kd.R_below ho8 hBw7_w7) (Kd.C_below hc9 hBw7_w7) hBw7_w3 c2) ?_
                                    rintro vw10 w10 ⟨hb, hr⟩
                                    have hBw10_w := below_step hBw3_w hb
                                    have hBw10_w3 := hb
                                    replace hS := (((((hS.nil).cons (hS.get 6 rfl)).cons (hS.get 5 rfl)).cons (hS.get 4 rfl)).cons (hS.get 3 rfl)).cons (hS.get 2 rfl)
                                    have hBw10_w10 := Below.refl w10.heap.size w10
                                    obtain ⟨A11, C11, rfl, hl11, hc11⟩ := Kd.R_reads hr
                                    have hr11 := hr
                                    clear hr
                                    replace hS := hS.put (v := .slice A11 ((l0 ++ [99] : List Int).length) C11) (d := 17) (by decide) (by rfl)
                                    refine list_step rfl (R := fun v w' => Below _ _ w' ∧ (IsV (.slice A0 l0.length c0)) v w') (does_val (x_move rfl (hS.get 3 rfl)) rfl) ?_
                                    rintro vw12 w12 ⟨hb, he⟩
                                    have hBw12_w := below_step hBw10_w hb
                                    have hBw12_w3 := below_step hBw10_w3 hb
                                    have hBw12_w10 := below_step hBw10_w10 hb
                                    have hBw12_w12 := Below.refl w12.heap.size w12
                                    obtain rfl : vw12 = .slice A0 l0.length c0 := he
                                    replace hS := hS.put (v := .slice A0 l0.length c0) (d := 18) (by decide) (by rfl)
                                    refine list_step rfl (R := fun v w' => Below _ _ w' ∧ (IsV (.int .i64 (l0.length : Int))) v w') (does_val (x_len (e := 5) rfl (by kernel_rfl) (hS.get 0 rfl)) rfl) ?_
                                    rintro vw13 w13 ⟨hb, he⟩
                                    have hBw13_w := below_step hBw12_w hb
                                    have hBw13_w3 := below_step hBw12_w3 hb
                                    have hBw13_w10 := below_step hBw12_w10 hb
                                    have hBw13_w12 := below_step hBw12_w12 hb
                                    have hBw13_w13 := Below.refl w13.heap.size w13
                                    obtain rfl : vw13 = .int .i64 (l0.length : Int) := he
                                    replace hS := hS.put (v := .int .i64 (l0.length : Int)) (d := 19) (by decide) (by rfl)
                                    refine list_step rfl (R := fun v w' => Below _ _ w' ∧ (IsV (.slice A11 (((l0 ++ [99] : List Int).take ((l0.length : Int) : Int).toNat).length) C11)) v w') (does_val (x_cuthi rfl (e := 5) (xs := (l0 ++ [99] : List Int)) (by kernel_rfl) (by kernel_rfl) (hS.get 2 rfl) (hS.get 0 rfl) c3 c4 hl11) rfl) ?_
                                    rintro vw14 w14 ⟨hb, he⟩
                                    have hBw14_w := below_step hBw13_w hb
                                    have hBw14_w3 := below_step hBw13_w3 hb
                                    have hBw14_w10 := below_step hBw13_w10 hb
                                    have hBw14_w13 := below_step hBw13_w13 hb
                                    have hBw14_w14 := Below.refl w14.heap.size w14
                                    obtain rfl : vw14 = .slice A11 (((l0 ++ [99] : List Int).take ((l0.length : Int) : Int).toNat).length) C11 := he
                                    replace hS := hS.put (v := .slice A11 (((l0 ++ [99] : List Int).take ((l0.length : Int) : Int).toNat).length) C11) (d := 20) (by decide) (by rfl)
                                    refine list_step rfl (R := fun v w' => Below _ _ w' ∧ (IsV (.slice A11 (((l0 ++ [99] : List Int).take ((l0.length : Int) : Int).toNat).length) C11)) v w') (does_val (x_assign rfl (hS.get 0 rfl)) rfl) ?_
                                    rintro vw15 w15 ⟨hb, he⟩
                                    have hBw15_w := below_step hBw14_w hb
                                    have hBw15_w3 := below_step hBw14_w3 hb
                                    have hBw15_w10 := below_step hBw14_w10 hb
                                    have hBw15_w14 := below_step hBw14_w14 hb
                                    have hBw15_w15 := Below.refl w15.heap.size w15
                                    obtain rfl : vw15 = .slice A11 (((l0 ++ [99] : List Int).take ((l0.length : Int) : Int).toNat).length) C11 := he
                                    replace hS := hS.put (v := .slice A11 (((l0 ++ [99] : List Int).take ((l0.length : Int) : Int).toNat).length) C11) (d := 7) (by decide) (by rfl)
                                    refine wpList_nil ?_
                                    refine hK5 _ _ ?_
                                    clear hK5 K5
                                    refine wp_seq_k (fun K16 hK16 => ?_)
                                    refine reg_seq_tail 7 (N := 92) (bs := [(7, .slice A11 (((l0 ++ [99] : List Int).take ((l0.length : Int) : Int).toNat).length) C11), (20, .slice A11 (((l0 ++ [99] : List Int).take ((l0.length : Int) : Int).toNat).length) C11), (19, .int .i64 (l0.length : Int)), (18, .slice A0 l0.length c0), (17, .slice A11 ((l0 ++ [99] : List Int).length) C11), (6, .bool false), (4, .pointer (some ⟨g4, 0, none⟩)), (0, .slice A0 l0.length c0), (1, .agg #[.int .i64 a1_0, .int .i64 a1_1, .int .i64 a1_2]), (2, .int .i64 a2)]) (I := fun x => Below w.heap.size w x ∧ Below w3.heap.size w3 x ∧ Below w10.heap.size w10 x ∧ Below w15.heap.size w15 x) (ps := [IsV (.slice A11 (((l0 ++ [99] : List Int).take ((l0.length : Int) : Int).toNat).length) C11), IsV (.int .i64 a2), IsV (.tuple #[.agg #[.int .i64 t17_1, .int .i64 t17_2, .int .i64 t17_3], .bool t17_4]), IsV (.tuple #[.agg #[.int .i64 t17_1, .int .i64 t17_2, .int .i64 t17_3], .bool t17_4]), IsV (.agg #[.int .i64 t17_1, .int .i64 t17_2, .int .i64 t17_3]), IsV (.bool t17_4), IsB #[.int .i64 0, .int .i64 0, .int .i64 0] 26 w15.heap.size]) (by kernel_rfl) ?_ ?_ rfl hS ⟨hBw15_w, hBw15_w3, hBw15_w10, hBw15_w15⟩ ?_ ?_
                                    · exact fun x y hI hb => ⟨below_step hI.1 hb, below_step hI.2.1 hb, below_step hI.2.2.1 hb, below_step hI.2.2.2 hb⟩
                                    · exact AllStay.cons (Stays.v _) (AllStay.cons (Stays.v _) (AllStay.cons (Stays.v _) (AllStay.cons (Stays.v _) (AllStay.cons (Stays.v _) (AllStay.cons (Stays.v _) (AllStay.cons (Stays.b _ _ _) (AllStay.nil)))))))
                                    · refine Steps.cons (fun a w hS hI hp => ok_on rfl (does_val (x_move rfl (hS.get 0 rfl)) rfl)) ?_
                                      refine Steps.cons (fun a w hS hI hp => ok_on rfl (does_val (x_move rfl (hS.get 9 rfl)) rfl)) ?_
                                      refine Steps.cons (fun a w hS hI hp => ok_on rfl (does_call (by kernel_rfl) (ar2 ((hp.get 0 (by rfl) rfl rfl)) ((hp.get 1 (by rfl) rfl rfl))) ((quality_Get.calls k _ _ ((l0 ++ [99] : List Int).take ((l0.length : Int) : Int).toNat) a2 t17_1 t17_2 t17_3 t17_4 _ (Kd.C_take (m := ((l0.length : Int) : Int).toNat) (Kd.C_below hc11 hI.2.2.1) (by have := c4; omega)) (Nat.le_trans (List.length_take_le' _ _) hl11) At17).mono fun _ _ h => ⟨_, h.1, h.2, rfl⟩))) ?_
                                      refine Steps.cons (fun a w hS hI hp => ok_on rfl (does_val (x_move rfl ((hp.get 2 (by rfl) rfl rfl))) rfl)) ?_
                                      refine Steps.cons (fun a w hS hI hp => ok_on rfl (does_val (x_extract rfl ((hp.get 3 (by rfl) rfl rfl)) rfl) rfl)) ?_
                                      refine Steps.cons (fun a w hS hI hp => ok_on rfl (does_val (x_extract rfl ((hp.get 3 (by rfl) rfl rfl)) rfl) rfl)) ?_
                                      refine Steps.cons (fun a w hS hI hp => ok_on rfl (does_var (x_alloc rfl (by kernel_rfl)) (hI.2.2.2).size)) ?_
                                      exact Steps.nil
                                    clear hS
                                    intro at18 w19 hS hI hp
                                    have hBw19_w := hI.1
                                    have hBw19_w3 := hI.2.1
                                    have hBw19_w10 := hI.2.2.1
                                    have hBw19_w15 := hI.2.2.2
                                    have hv25 : sl _ 25 = .agg #[.int .i64 t17_1, .int .i64 t17_2, .int .i64 t17_3] := hp 4 (by decide)
                                    have hv26 : sl _ 26 = .bool t17_4 := hp 5 (by decide)
                                    obtain ⟨g20, hv8, hgeg20, hbxg20⟩ := (show IsB _ 26 _ (sl _ 8) _ from hp 6 (by decide))
                                    have hBw19_w19 := Below.refl w19.heap.size w19
                                    have hS := hS.cons hv25
                                    have hS := hS.cons hv26
                                    have hS := hS.cons hv8
                                    clear hp hI hv25 hv26 hv8
                                    show wpList _ _ _ [_, _] _ _
                                    refine list_step rfl (does_store (g := g20) (off := 0) (v := .agg #[.int .i64 t17_1, .int .i64 t17_2, .int .i64 t17_3]) (new := #[.int .i64 t17_1, .int .i64 t17_2, .int .i64 t17_3]) rfl (hS.get 0 rfl) (hS.get 2 rfl) ((hBw19_w19.block g20 (blk_lt hbxg20)).trans hbxg20) (by kernel_rfl) (Nat.le_of_ble_eq_true rfl) (by simp [Value.cells, Value.oneCell']) rfl) ?_
                                    rintro vw21 w21 ⟨rfl, hbxw21, hT⟩
                                    have hBw21_w := hT.below hBw19_w (Nat.le_trans (hBw15_w).size hgeg20) (hBw19_w).size
                                    have hBw21_w3 := hT.below hBw19_w3 (Nat.le_trans (hBw15_w3).size hgeg20) (hBw19_w3).size
                                    have hBw21_w10 := hT.below hBw19_w10 (Nat.le_trans (hBw15_w10).size hgeg20) (hBw19_w10).size
                                    have hBw21_w15 := hT.below hBw19_w15 hgeg20 (hBw19_w15).size
                                    have hBw21_w21 := Below.refl w21.heap.size w21
                                    clear hT
                                    refine list_step rfl (R := fun v w' => Below _ _ w' ∧ (IsV (.bool t17_4)) v w') (does_val (x_assign rfl (hS.get 1 rfl)) rfl) ?_
                                    rintro vw22 w22 ⟨hb, he⟩
                                    have hBw22_w := below_step hBw21_w hb
                                    have hBw22_w3 := below_step hBw21_w3 hb
                                    have hBw22_w10 := below_step hBw21_w10 hb
                                    have hBw22_w15 := below_step hBw21_w15 hb
                                    have hBw22_w21 := below_step hBw21_w21 hb
                                    have hBw22_w22 := Below.refl w22.heap.size w22
                                    obtain rfl : vw22 = .bool t17_4 := he
                                    replace hS := hS.put (v := .bool t17_4) (d := 9) (by decide) (by rfl)
                                    refine wpList_nil ?_
                                    refine hK16 _ _ ?_
                                    clear hK16 K16
                                    refine wp_seq_k (fun K23 hK23 => ?_)
                                    refine reg_seq_tail 7 (N := 92) (bs := [(9, .bool t17_4), (8, .pointer (some ⟨g20, 0, none⟩)), (26, .bool t17_4), (25, .agg #[.int .i64 t17_1, .int .i64 t17_2, .int .i64 t17_3]), (7, .slice A11 (((l0 ++ [99] : List Int).take ((l0.length : Int) : Int).toNat).length) C11), (20, .slice A11 (((l0 ++ [99] : List Int).take ((l0.length : Int) : Int).toNat).length) C11), (19, .int .i64 (l0.length : Int)), (18, .slice A0 l0.length c0), (17, .slice A11 ((l0 ++ [99] : List Int).length) C11), (6, .bool false), (4, .pointer (some ⟨g4, 0, none⟩)), (0, .slice A0 l0.length c0), (1, .agg #[.int .i64 a1_0, .int .i64 a1_1, .int .i64 a1_2]), (2, .int .i64 a2)]) (I := fun x => Below w.heap.size w x ∧ Below w3.heap.size w3 x ∧ Below w10.heap.size w10 x ∧ Below w15.heap.size w15 x ∧ Below w21.heap.size w21 x ∧ Below w22.heap.size w22 x) (ps := [IsV (.slice A0 l0.length c0), IsV (.int .i64 a2), IsV (.tuple #[.agg #[.int .i64 t24_1, .int .i64 t24_2, .int .i64 t24_3], .bool t24_4]), IsV (.tuple #[.agg #[.int .i64 t24_1, .int .i64 t24_2, .int .i64 t24_3], .bool t24_4]), IsV (.agg #[.int .i64 t24_1, .int .i64 t24_2, .int .i64 t24_3]), IsV (.bool t24_4), IsB #[.int .i64 0, .int .i64 0, .int .i64 0] 26 w22.heap.size]) (by kernel_rfl) ?_ ?_ rfl hS ⟨hBw22_w, hBw22_w3, hBw22_w10, hBw22_w15, hBw22_w21, hBw22_w22⟩ ?_ ?_
                                    · exact fun x y hI hb => ⟨below_step hI.1 hb, below_step hI.2.1 hb, below_step hI.2.2.1 hb, below_step hI.2.2.2.1 hb, below_step hI.2.2.2.2.1 hb, below_step hI.2.2.2.2.2 hb⟩
                                    · exact AllStay.cons (Stays.v _) (AllStay.cons (Stays.v _) (AllStay.cons (Stays.v _) (AllStay.cons (Stays.v _) (AllStay.cons (Stays.v _) (AllStay.cons (Stays.v _) (AllStay.cons (Stays.b _ _ _) (AllStay.nil)))))))
                                    · refine Steps.cons (fun a w hS hI hp => ok_on rfl (does_val (x_move rfl (hS.get 11 rfl)) rfl)) ?_
                                      refine Steps.cons (fun a w hS hI hp => ok_on rfl (does_val (x_move rfl (hS.get 13 rfl)) rfl)) ?_
                                      refine Steps.cons (fun a w hS hI hp => ok_on rfl (does_call (by kernel_rfl) (ar2 ((hp.get 0 (by rfl) rfl rfl)) ((hp.get 1 (by rfl) rfl rfl))) ((carillonref05_Get.calls k _ _ l0 a2 t24_1 t24_2 t24_3 t24_4 _ (Kd.C_below HR0 hI.1) HC0 At24).mono fun _ _ h => ⟨_, h.1, h.2, rfl⟩))) ?_
                                      refine Steps.cons (fun a w hS hI hp => ok_on rfl (does_val (x_move rfl ((hp.get 2 (by rfl) rfl rfl))) rfl)) ?_
                                      refine Steps.cons (fun a w hS hI hp => ok_on rfl (does_val (x_extract rfl ((hp.get 3 (by rfl) rfl rfl)) rfl) rfl)) ?_
                                      refine Steps.cons (fun a w hS hI hp => ok_on rfl (does_val (x_extract rfl ((hp.get 3 (by rfl) rfl rfl)) rfl) rfl)) ?_
                                      refine Steps.cons (fun a w hS hI hp => ok_on rfl (does_var (x_alloc rfl (by kernel_rfl)) (hI.2.2.2.2.2).size)) ?_
                                      exact Steps.nil
                                    clear hS
                                    intro at25 w26 hS hI hp
                                    have hBw26_w := hI.1
                                    have hBw26_w3 := hI.2.1
                                    have hBw26_w10 := hI.2.2.1
                                    have hBw26_w15 := hI.2.2.2.1
                                    have hBw26_w21 := hI.2.2.2.2.1
                                    have hBw26_w22 := hI.2.2.2.2.2
                                    have hv31 : sl _ 31 = .agg #[.int .i64 t24_1, .int .i64 t24_2, .int .i64 t24_3] := hp 4 (by decide)
                                    have hv32 : sl _ 32 = .bool t24_4 := hp 5 (by decide)
                                    obtain ⟨g27, hv10, hgeg27, hbxg27⟩ := (show IsB _ 26 _ (sl _ 10) _ from hp 6 (by decide))
                                    have hBw26_w26 := Below.refl w26.heap.size w26
                                    have hS := hS.cons hv31
                                    have hS := hS.cons hv32
                                    have hS := hS.cons hv10
                                    clear hp hI hv31 hv32 hv10
                                    show wpList _ _ _ [_, _] _ _
                                    refine list_step rfl (does_store (g := g27) (off := 0) (v := .agg #[.int .i64 t24_1, .int .i64 t24_2, .int .i64 t24_3]) (new := #[.int .i64 t24_1, .int .i64 t24_2, .int .i64 t24_3]) rfl (hS.get 0 rfl) (hS.get 2 rfl) ((hBw26_w26.block g27 (blk_lt hbxg27)).trans hbxg27) (by kernel_rfl) (Nat.le_of_ble_eq_true rfl) (by simp [Value.cells, Value.oneCell']) rfl) ?_
                                    rintro vw28 w28 ⟨rfl, hbxw28, hT⟩
                                    have hBw28_w := hT.below hBw26_w (Nat.le_trans (hBw22_w).size hgeg27) (hBw26_w).size
                                    have hBw28_w3 := hT.below hBw26_w3 (Nat.le_trans (hBw22_w3).size hgeg27) (hBw26_w3).size
                                    have hBw28_w10 := hT.below hBw26_w10 (Nat.le_trans (hBw22_w10).size hgeg27) (hBw26_w10).size
                                    have hBw28_w15 := hT.below hBw26_w15 (Nat.le_trans (hBw22_w15).size hgeg27) (hBw26_w15).size
                                    have hBw28_w21 := hT.below hBw26_w21 (Nat.le_trans (hBw22_w21).size hgeg27) (hBw26_w21).size
                                    have hBw28_w22 := hT.below hBw26_w22 hgeg27 (hBw26_w22).size
                                    have hBw28_w28 := Below.refl w28.heap.size w28
                                    clear hT
                                    refine list_step rfl (R := fun v w' => Below _ _ w' ∧ (IsV (.bool t24_4)) v w') (does_val (x_assign rfl (hS.get 1 rfl)) rfl) ?_
                                    rintro vw29 w29 ⟨hb, he⟩
                                    have hBw29_w := below_step hBw28_w hb
                                    have hBw29_w3 := below_step hBw28_w3 hb
                                    have hBw29_w10 := below_step hBw28_w10 hb
                                    have hBw29_w15 := below_step hBw28_w15 hb
                                    have hBw29_w21 := below_step hBw28_w21 hb
                                    have hBw29_w22 := below_step hBw28_w22 hb
                                    have hBw29_w28 := below_step hBw28_w28 hb
                                    have hBw29_w29 := Below.refl w29.heap.size w29
                                    obtain rfl : vw29 = .bool t24_4 := he
                                    replace hS := hS.put (v := .bool t24_4) (d := 11) (by decide) (by rfl)
                                    refine wpList_nil ?_
                                    refine hK23 _ _ ?_
                                    clear hK23 K23
                                    refine wp_seq_k (fun K30 hK30 => ?_)
                                    refine wp_seq_k (fun K31 hK31 => ?_)
                                    refine reg_any (N := 92) (bs := [(11, .bool t24_4), (10, .pointer (some ⟨g27, 0, none⟩)), (32, .bool t24_4), (31, .agg #[.int .i64 t24_1, .int .i64 t24_2, .int .i64 t24_3]), (9, .bool t17_4), (8, .pointer (some ⟨g20, 0, none⟩)), (26, .bool t17_4), (25, .agg #[.int .i64 t17_1, .int .i64 t17_2, .int .i64 t17_3]), (7, .slice A11 (((l0 ++ [99] : List Int).take ((l0.length : Int) : Int).toNat).length) C11), (20, .slice A11 (((l0 ++ [99] : List Int).take ((l0.length : Int) : Int).toNat).length) C11), (19, .int .i64 (l0.length : Int)), (18, .slice A0 l0.length c0), (17, .slice A11 ((l0 ++ [99] : List Int).length) C11), (6, .bool false), (4, .pointer (some ⟨g4, 0, none⟩)), (0, .slice A0 l0.length c0), (1, .agg #[.int .i64 a1_0, .int .i64 a1_1, .int .i64 a1_2]), (2, .int .i64 a2)]) (I := fun x => Below w.heap.size w x ∧ Below w3.heap.size w3 x ∧ Below w10.heap.size w10 x ∧ Below w15.heap.size w15 x ∧ Below w21.heap.size w21 x ∧ Below w22.heap.size w22 x ∧ Below w28.heap.size w28 x ∧ Below w29.heap.size w29 x) (ps := [IsV (.slice A11 (((l0 ++ [99] : List Int).take ((l0.length : Int) : Int).toNat).length) C11), IsV (.agg #[.int .i64 a1_0, .int .i64 a1_1, .int .i64 a1_2]), IsR (Kd.int .u8) 5 w29.heap.size t32, IsV (.string (strOfNums t32)), IsV (.slice A0 l0.length c0), IsV (.string (strOfNums l0)), IsV (.agg #[.int .i64 a1_0, .int .i64 a1_1, .int .i64 a1_2]), IsR (Kd.int .u8) 5 w29.heap.size t33, IsV (.string (strOfNums t33)), IsV (.string ((strOfNums l0) ++ (strOfNums t33))), IsV (.bool (!((strOfNums t32).toList == ((strOfNums l0) ++ (strOfNums t33)).toList))), IsV (.bool (!((strOfNums t32).toList == ((strOfNums l0) ++ (strOfNums t33)).toList))), IsV (.agg #[.int .i64 a1_0, .int .i64 a1_1, .int .i64 a1_2]), IsV (.bool t34), IsV (.agg #[.int .i64 a1_0, .int .i64 a1_1, .int .i64 a1_2]), IsV (.bool t35), IsV (.bool (!(t34 == t35))), IsV (.bool (!(t34 == t35))), IsV (.bool (!(t34 == t35))), IsV (.agg #[.int .i64 t17_1, .int .i64 t17_2, .int .i64 t17_3]), IsV (.agg #[.int .i64 t24_1, .int .i64 t24_2, .int .i64 t24_3]), IsV (.bool (!((t17_1 == t24_1) && ((t17_2 == t24_2) && (t17_3 == t24_3))))), IsV (.bool (!((t17_1 == t24_1) && ((t17_2 == t24_2) && (t17_3 == t24_3))))), IsV (.bool (!((t17_1 == t24_1) && ((t17_2 == t24_2) && (t17_3 == t24_3))))), IsV (.bool t17_4), IsV (.bool t24_4), IsV (.bool (!(t17_4 == t24_4))), IsV (.bool (!(t17_4 == t24_4)))]) (by kernel_rfl) (by kernel_rfl) ?_ ?_ rfl hS ⟨hBw29_w, hBw29_w3, hBw29_w10, hBw29_w15, hBw29_w21, hBw29_w22, hBw29_w28, hBw29_w29⟩ ?_ ?_
                                    · exact fun x y hI hb => ⟨below_step hI.1 hb, below_step hI.2.1 hb, below_step hI.2.2.1 hb, below_step hI.2.2.2.1 hb, below_step hI.2.2.2.2.1 hb, below_step hI.2.2.2.2.2.1 hb, below_step hI.2.2.2.2.2.2.1 hb, below_step hI.2.2.2.2.2.2.2 hb⟩
                                    · exact AllStay.cons (Stays.v _) (AllStay.cons (Stays.v _) (AllStay.cons (Stays.r _ _ _ _) (AllStay.cons (Stays.v _) (AllStay.cons (Stays.v _) (AllStay.cons (Stays.v _) (AllStay.cons (Stays.v _) (AllStay.cons (Stays.r _ _ _ _) (AllStay.cons (Stays.v _) (AllStay.cons (Stays.v _) (AllStay.cons (Stays.v _) (AllStay.cons (Stays.v _) (AllStay.cons (Stays.v _) (AllStay.cons (Stays.v _) (AllStay.cons (Stays.v _) (AllStay.cons (Stays.v _) (AllStay.cons (Stays.v _) (AllStay.cons (Stays.v _) (AllStay.cons (Stays.v _) (AllStay.cons (Stays.v _) (AllStay.cons (Stays.v _) (AllStay.cons (Stays.v _) (AllStay.cons (Stays.v _) (AllStay.cons (Stays.v _) (AllStay.cons (Stays.v _) (AllStay.cons (Stays.v _) (AllStay.cons (Stays.v _) (AllStay.cons (Stays.v _) (AllStay.nil))))))))))))))))))))))))))))
                                    · refine Steps.cons (fun a w hS hI hp => ok_on rfl (does_val (x_move rfl (hS.get 8 rfl)) rfl)) ?_
                                      refine Steps.cons (fun a w hS hI hp => ok_on rfl (does_loadrow rfl (hS.get 14 rfl) (((hI.2.1).block g4 (blk_lt hbxg4)).trans hbxg4) Try.underlying26 rfl (by kernel_rfl) rfl)) ?_
                                      refine Steps.cons (fun a w hS hI hp => ok_on rfl (does_call (by kernel_rfl) (ar2 ((hp.get 0 (by rfl) rfl rfl)) ((hp.get 1 (by rfl) rfl rfl))) ((quality_Put.calls _ _ ((l0 ++ [99] : List Int).take ((l0.length : Int) : Int).toNat) a1_0 a1_1 a1_2 t32 _ (Kd.C_take (m := ((l0.length : Int) : Int).toNat) (Kd.C_below hc11 hI.2.2.1) (by have := c4; omega)) (Nat.le_trans (List.length_take_le' _ _) hl11) At32).mono fun _ _ h => h.elim fun v0 h => ⟨v0, h.1, h.2.2, Kd.R_lower h.2.1 hI.2.2.2.2.2.2.2.size⟩))) ?_
                                      refine Steps.cons (fun a w hS hI hp => ok_on rfl ((IsC.of_r ((hp.get 2 (by rfl) rfl rfl))).elim fun A_ h_ => h_.elim fun c_ h_ => h_.elim fun hv_ h_ => h_.elim fun hl_ hc_ => does_val (x_conv rfl hv_ (Kd.C_string (by kernel_rfl) (e := 5) (by kernel_rfl) (by kernel_rfl) hc_)) rfl)) ?_
                                      refine Steps.cons (fun a w hS hI hp => ok_on rfl (does_val (x_move rfl (hS.get 15 rfl)) rfl)) ?_
                                      refine Steps.cons (fun a w hS hI hp => ok_on rfl (does_val (x_conv rfl ((hp.get 4 (by rfl) rfl rfl)) (Kd.C_string (by kernel_rfl) (e := 5) (by kernel_rfl) (by kernel_rfl) (Kd.C_below HR0 hI.1))) rfl)) ?_
                                      refine Steps.cons (fun a w hS hI hp => ok_on rfl (does_loadrow rfl (hS.get 14 rfl) (((hI.2.1).block g4 (blk_lt hbxg4)).trans hbxg4) Try.underlying26 rfl (by kernel_rfl) rfl)) ?_
                                      refine Steps.cons (fun a w hS hI hp => ok_on rfl (does_call (by kernel_rfl) (ar1 ((hp.get 6 (by rfl) rfl rfl))) ((carillonref05_Put.calls k a1_0 a1_1 a1_2 t33 _  At33).mono fun _ _ h => h.elim fun v0 h => ⟨v0, h.1, h.2.2, Kd.R_lower h.2.1 hI.2.2.2.2.2.2.2.size⟩))) ?_
                                      refine Steps.cons (fun a w hS hI hp => ok_on rfl ((IsC.of_r ((hp.get 7 (by rfl) rfl rfl))).elim fun A_ h_ => h_.elim fun c_ h_ => h_.elim fun hv_ h_ => h_.elim fun hl_ hc_ => does_val (x_conv rfl hv_ (Kd.C_string (by kernel_rfl) (e := 5) (by kernel_rfl) (by kernel_rfl) hc_)) rfl)) ?_
                                      refine Steps.cons (fun a w hS hI hp => ok_on rfl (does_val (x_bin rfl ((hp.get 5 (by rfl) rfl rfl)) ((hp.get 8 (by rfl) rfl rfl)) (b_adds _ _ _ _ _ c5)) rfl)) ?_
                                      refine Steps.cons (fun a w hS hI hp => ok_on rfl (does_val (x_bin rfl ((hp.get 3 (by rfl) rfl rfl)) ((hp.get 9 (by rfl) rfl rfl)) (b_nes _ _ _ _ _)) rfl)) ?_
                                      refine Steps.cons (fun a w hS hI hp => ok_on rfl (does_val (x_move rfl ((hp.get 10 (by rfl) rfl rfl))) rfl)) ?_
                                      refine Steps.cons (fun a w hS hI hp => ok_if (d := 44) rfl rfl (by rw [hS.size]; decide) (((hp.get 11 (by rfl) rfl rfl)).trans (bF (congrArg (!·) c6))) (does_loadrow rfl (hS.get 14 rfl) (((hI.2.1).block g4 (blk_lt hbxg4)).trans hbxg4) Try.underlying26 rfl (by kernel_rfl) rfl)) ?_
                                      refine Steps.cons (fun a w hS hI hp => ok_if (d := 44) rfl rfl (by rw [hS.size]; decide) (((hp.get 11 (by rfl) rfl rfl)).trans (bF (congrArg (!·) c6))) (does_call (by kernel_rfl) (ar1 ((hp.get 12 (by rfl) rfl rfl))) ((quality_May.calls a1_0 a1_1 a1_2 t34 _  At34).mono fun _ _ h => ⟨_, h.1, h.2, rfl⟩))) ?_
                                      refine Steps.cons (fun a w hS hI hp => ok_if (d := 44) rfl rfl (by rw [hS.size]; decide) (((hp.get 11 (by rfl) rfl rfl)).trans (bF (congrArg (!·) c6))) (does_loadrow rfl (hS.get 14 rfl) (((hI.2.1).block g4 (blk_lt hbxg4)).trans hbxg4) Try.underlying26 rfl (by kernel_rfl) rfl)) ?_
                                      refine Steps.cons (fun a w hS hI hp => ok_if (d := 44) rfl rfl (by rw [hS.size]; decide) (((hp.get 11 (by rfl) rfl rfl)).trans (bF (congrArg (!·) c6))) (does_call (by kernel_rfl) (ar1 ((hp.get 14 (by rfl) rfl rfl))) ((carillonref05_May.calls a1_0 a1_1 a1_2 t35 _  At35).mono fun _ _ h => ⟨_, h.1, h.2, rfl⟩))) ?_
                                      refine Steps.cons (fun a w hS hI hp => ok_if (d := 44) rfl rfl (by rw [hS.size]; decide) (((hp.get 11 (by rfl) rfl rfl)).trans (bF (congrArg (!·) c6))) (does_val (x_bin rfl ((hp.get 13 (by rfl) rfl rfl)) ((hp.get 15 (by rfl) rfl rfl)) (b_neb _ _ _ _ _ (by kernel_rfl))) rfl)) ?_
                                      refine Steps.cons (fun a w hS hI hp => ok_on rfl (does_val (x_pickF rfl (((hp.get 11 (by rfl) rfl rfl)).trans (bF (congrArg (!·) c6))) ((hp.get 16 (by rfl) rfl rfl))) rfl)) ?_
                                      refine Steps.cons (fun a w hS hI hp => ok_on rfl (does_val (x_move rfl ((hp.get 17 (by rfl) rfl rfl))) rfl)) ?_
                                      refine Steps.cons (fun a w hS hI hp => ok_if (d := 51) rfl rfl (by rw [hS.size]; decide) (((hp.get 18 (by rfl) rfl rfl)).trans (bF (congrArg (!·) c7))) (does_loadrow rfl (hS.get 5 rfl) (((hI.2.2.2.2.1).block g20 (blk_lt hbxw21)).trans hbxw21) Try.underlying26 rfl (by kernel_rfl) rfl)) ?_
                                      refine Steps.cons (fun a w hS hI hp => ok_if (d := 51) rfl rfl (by rw [hS.size]; decide) (((hp.get 18 (by rfl) rfl rfl)).trans (bF (congrArg (!·) c7))) (does_loadrow rfl (hS.get 1 rfl) (((hI.2.2.2.2.2.2.1).block g27 (blk_lt hbxw28)).trans hbxw28) Try.underlying26 rfl (by kernel_rfl) rfl)) ?_
                                      refine Steps.cons (fun a w hS hI hp => ok_if (d := 51) rfl rfl (by rw [hS.size]; decide) (((hp.get 18 (by rfl) rfl rfl)).trans (bF (congrArg (!·) c7))) (does_val (x_bin rfl ((hp.get 19 (by rfl) rfl rfl)) ((hp.get 20 (by rfl) rfl rfl)) (carillonlaw05_QualityBytes.neq26 _ _ _ t17_1 t17_2 t17_3 t24_1 t24_2 t24_3)) rfl)) ?_
                                      refine Steps.cons (fun a w hS hI hp => ok_on rfl (does_val (x_pickF rfl (((hp.get 18 (by rfl) rfl rfl)).trans (bF (congrArg (!·) c7))) ((hp.get 21 (by rfl) rfl rfl))) rfl)) ?_
                                      refine Steps.cons (fun a w hS hI hp => ok_on rfl (does_val (x_move rfl ((hp.get 22 (by rfl) rfl rfl))) rfl)) ?_
                                      refine Steps.cons (fun a w hS hI hp => ok_if (d := 56) rfl rfl (by rw [hS.size]; decide) (((hp.get 23 (by rfl) rfl rfl)).trans (bF (congrArg (!·) c8))) (does_val (x_move rfl (hS.get 4 rfl)) rfl)) ?_
                                      refine Steps.cons (fun a w hS hI hp => ok_if (d := 56) rfl rfl (by rw [hS.size]; decide) (((hp.get 23 (by rfl) rfl rfl)).trans (bF (congrArg (!·) c8))) (does_val (x_move rfl (hS.get 0 rfl)) rfl)) ?_
                                      refine Steps.cons (fun a w hS hI hp => ok_if (d := 56) rfl rfl (by rw [hS.size]; decide) (((hp.get 23 (by rfl) rfl rfl)).trans (bF (congrArg (!·) c8))) (does_val (x_bin rfl ((hp.get 24 (by rfl) rfl rfl)) ((hp.get 25 (by rfl) rfl rfl)) (b_neb _ _ _ _ _ (by kernel_rfl))) rfl)) ?_
                                      refine Steps.cons (fun a w hS hI hp => ok_on rfl (does_val (x_pickF rfl (((hp.get 23 (by rfl) rfl rfl)).trans (bF (congrArg (!·) c8))) ((hp.get 26 (by rfl) rfl rfl))) rfl)) ?_
                                      exact Steps.nil
                                    clear hS
                                    intro at36 w37 hS hI hp
                                    have hBw37_w := hI.1
                                    have hBw37_w3 := hI.2.1
                                    have hBw37_w10 := hI.2.2.1
                                    have hBw37_w15 := hI.2.2.2.1
                                    have hBw37_w21 := hI.2.2.2.2.1
                                    have hBw37_w22 := hI.2.2.2.2.2.1
                                    have hBw37_w28 := hI.2.2.2.2.2.2.1
                                    have hBw37_w29 := hI.2.2.2.2.2.2.2
                                    have hv60 : sl _ 60 = .bool (!(t17_4 == t24_4)) := hp 27 (by decide)
                                    have hBw37_w37 := Below.refl w37.heap.size w37
                                    have hS := hS.cons hv60
                                    clear hp hI hv60
                                    refine hK31 _ _ ?_
                                    clear hK31 K31
                                    refine wp_cond_false ((hS.get 0 rfl).trans (bF (congrArg (!·) c9))) ?_
                                    refine wp_skip ?_
                                    refine hK30 _ _ ?_
                                    clear hK30 K30
                                    refine wp_seq_k (fun K38 hK38 => ?_)
                                    refine wp_seq_k (fun K39 hK39 => ?_)
                                    refine reg_seq (N := 92) (bs := [(60, .bool (!(t17_4 == t24_4))), (11, .bool t24_4), (10, .pointer (some ⟨g27, 0, none⟩)), (32, .bool t24_4), (31, .agg #[.int .i64 t24_1, .int .i64 t24_2, .int .i64 t24_3]), (9, .bool t17_4), (8, .pointer (some ⟨g20, 0, none⟩)), (26, .bool t17_4), (25, .agg #[.int .i64 t17_1, .int .i64 t17_2, .int .i64 t17_3]), (7, .slice A11 (((l0 ++ [99] : List Int).take ((l0.length : Int) : Int).toNat).length) C11), (20, .slice A11 (((l0 ++ [99] : List Int).take ((l0.length : Int) : Int).toNat).length) C11), (19, .int .i64 (l0.length : Int)), (18, .slice A0 l0.length c0), (17, .slice A11 ((l0 ++ [99] : List Int).length) C11), (6, .bool false), (4, .pointer (some ⟨g4, 0, none⟩)), (0, .slice A0 l0.length c0), (1, .agg #[.int .i64 a1_0, .int .i64 a1_1, .int .i64 a1_2]), (2, .int .i64 a2)]) (I := fun x => Below w.heap.size w x ∧ Below w3.heap.size w3 x ∧ Below w10.heap.size w10 x ∧ Below w15.heap.size w15 x ∧ Below w21.heap.size w21 x ∧ Below w22.heap.size w22 x ∧ Below w28.heap.size w28 x ∧ Below w37.heap.size w37 x) (ps := [IsV (.agg #[.int .i64 a1_0, .int .i64 a1_1, .int .i64 a1_2]), IsV (.bool t40), IsV (.bool (!t40))]) (by kernel_rfl) ?_ ?_ rfl hS ⟨hBw37_w, hBw37_w3, hBw37_w10, hBw37_w15, hBw37_w21, hBw37_w22, hBw37_w28, hBw37_w37⟩ ?_ ?_
                                    · exact fun x y hI hb => ⟨below_step hI.1 hb, below_step hI.2.1 hb, below_step hI.2.2.1 hb, below_step hI.2.2.2.1 hb, below_step hI.2.2.2.2.1 hb, below_step hI.2.2.2.2.2.1 hb, below_step hI.2.2.2.2.2.2.1 hb, below_step hI.2.2.2.2.2.2.2 hb⟩
                                    · exact AllStay.cons (Stays.v _) (AllStay.cons (Stays.v _) (AllStay.cons (Stays.v _) (AllStay.nil)))
                                    · refine Steps.cons (fun a w hS hI hp => ok_on rfl (does_loadrow rfl (hS.get 15 rfl) (((hI.2.1).block g4 (blk_lt hbxg4)).trans hbxg4) Try.underlying26 rfl (by kernel_rfl) rfl)) ?_
                                      refine Steps.cons (fun a w hS hI hp => ok_on rfl (does_call (by kernel_rfl) (ar1 ((hp.get 0 (by rfl) rfl rfl))) ((quality_May.calls a1_0 a1_1 a1_2 t40 _  At40).mono fun _ _ h => ⟨_, h.1, h.2, rfl⟩))) ?_
                                      refine Steps.cons (fun a w hS hI hp => ok_on rfl (does_val (x_not rfl ((hp.get 1 (by rfl) rfl rfl))) rfl)) ?_
                                      exact Steps.nil
                                    clear hS
                                    intro at41 w42 hS hI hp
                                    have hBw42_w := hI.1
                                    have hBw42_w3 := hI.2.1
                                    have hBw42_w10 := hI.2.2.1
                                    have hBw42_w15 := hI.2.2.2.1
                                    have hBw42_w21 := hI.2.2.2.2.1
                                    have hBw42_w22 := hI.2.2.2.2.2.1
                                    have hBw42_w28 := hI.2.2.2.2.2.2.1
                                    have hBw42_w37 := hI.2.2.2.2.2.2.2
                                    have hv63 : sl _ 63 = .bool (!t40) := hp 2 (by decide)
                                    have hBw42_w42 := Below.refl w42.heap.size w42
                                    have hS := hS.cons hv63
                                    clear hp hI hv63
                                    refine hK39 _ _ ?_
                                    clear hK39 K39
                                    refine wp_cond_false ((hS.get 0 rfl).trans (bF (congrArg (!·) c10))) ?_
                                    refine wp_skip ?_
                                    refine hK38 _ _ ?_
                                    clear hK38 K38
                                    refine wp_seq_k (fun K43 hK43 => ?_)
                                    refine reg_seq_tail 7 (N := 92) (bs := [(63, .bool (!t40)), (60, .bool (!(t17_4 == t24_4))), (11, .bool t24_4), (10, .pointer (some ⟨g27, 0, none⟩)), (32, .bool t24_4), (31, .agg #[.int .i64 t24_1, .int .i64 t24_2, .int .i64 t24_3]), (9, .bool t17_4), (8, .pointer (some ⟨g20, 0, none⟩)), (26, .bool t17_4), (25, .agg #[.int .i64 t17_1, .int .i64 t17_2, .int .i64 t17_3]), (7, .slice A11 (((l0 ++ [99] : List Int).take ((l0.length : Int) : Int).toNat).length) C11), (20, .slice A11 (((l0 ++ [99] : List Int).take ((l0.length : Int) : Int).toNat).length) C11), (19, .int .i64 (l0.length : Int)), (18, .slice A0 l0.length c0), (17, .slice A11 ((l0 ++ [99] : List Int).length) C11), (6, .bool false), (4, .pointer (some ⟨g4, 0, none⟩)), (0, .slice A0 l0.length c0), (1, .agg #[.int .i64 a1_0, .int .i64 a1_1, .int .i64 a1_2]), (2, .int .i64 a2)]) (I := fun x => Below w.heap.size w x ∧ Below w3.heap.size w3 x ∧ Below w10.heap.size w10 x ∧ Below w15.heap.size w15 x ∧ Below w21.heap.size w21 x ∧ Below w22.heap.size w22 x ∧ Below w28.heap.size w28 x ∧ Below w42.heap.size w42 x) (ps := [IsV (.agg #[.int .i64 a1_0, .int .i64 a1_1, .int .i64 a1_2]), IsR (Kd.int .u8) 5 w42.heap.size t44, IsV (.tuple #[.agg #[.int .i64 t45_1, .int .i64 t45_2, .int .i64 t45_3], .bool t45_4]), IsV (.tuple #[.agg #[.int .i64 t45_1, .int .i64 t45_2, .int .i64 t45_3], .bool t45_4]), IsV (.agg #[.int .i64 t45_1, .int .i64 t45_2, .int .i64 t45_3]), IsV (.bool t45_4), IsB #[.int .i64 0, .int .i64 0, .int .i64 0] 26 w42.heap.size]) (by kernel_rfl) ?_ ?_ rfl hS ⟨hBw42_w, hBw42_w3, hBw42_w10, hBw42_w15, hBw42_w21, hBw42_w22, hBw42_w28, hBw42_w42⟩ ?_ ?_
                                    · exact fun x y hI hb => ⟨below_step hI.1 hb, below_step hI.2.1 hb, below_step hI.2.2.1 hb, below_step hI.2.2.2.1 hb, below_step hI.2.2.2.2.1 hb, below_step hI.2.2.2.2.2.1 hb, below_step hI.2.2.2.2.2.2.1 hb, below_step hI.2.2.2.2.2.2.2 hb⟩
                                    · exact AllStay.cons (Stays.v _) (AllStay.cons (Stays.r _ _ _ _) (AllStay.cons (Stays.v _) (AllStay.cons (Stays.v _) (AllStay.cons (Stays.v _) (AllStay.cons (Stays.v _) (AllStay.cons (Stays.b _ _ _) (AllStay.nil)))))))
                                    · refine Steps.cons (fun a w hS hI hp => ok_on rfl (does_loadrow rfl (hS.get 16 rfl) (((hI.2.1).block g4 (blk_lt hbxg4)).trans hbxg4) Try.underlying26 rfl (by kernel_rfl) rfl)) ?_
                                      refine Steps.cons (fun a w hS hI hp => ok_on rfl (does_call (by kernel_rfl) (ar2 (rfl) ((hp.get 0 (by rfl) rfl rfl))) ((quality_Put.calls _ _ [] a1_0 a1_1 a1_2 t44 _ (Kd.C_nil _ _) (Nat.le_refl _) At44).mono fun _ _ h => h.elim fun v0 h => ⟨v0, h.1, h.2.2, Kd.R_lower h.2.1 hI.2.2.2.2.2.2.2.size⟩))) ?_
                                      refine Steps.cons (fun a w hS hI hp => ok_on rfl ((IsC.of_r ((hp.get 1 (by rfl) rfl rfl))).elim fun A_ h_ => h_.elim fun c_ h_ => h_.elim fun hv_ h_ => h_.elim fun hl_ hc_ => does_call (by kernel_rfl) (ar2 (hv_) (rfl)) ((quality_Get.calls k _ _ t44 0 t45_1 t45_2 t45_3 t45_4 _ hc_ hl_ At45).mono fun _ _ h => ⟨_, h.1, h.2, rfl⟩))) ?_
                                      refine Steps.cons (fun a w hS hI hp => ok_on rfl (does_val (x_move rfl ((hp.get 2 (by rfl) rfl rfl))) rfl)) ?_
                                      refine Steps.cons (fun a w hS hI hp => ok_on rfl (does_val (x_extract rfl ((hp.get 3 (by rfl) rfl rfl)) rfl) rfl)) ?_
                                      refine Steps.cons (fun a w hS hI hp => ok_on rfl (does_val (x_extract rfl ((hp.get 3 (by rfl) rfl rfl)) rfl) rfl)) ?_
                                      refine Steps.cons (fun a w hS hI hp => ok_on rfl (does_var (x_alloc rfl (by kernel_rfl)) (hI.2.2.2.2.2.2.2).size)) ?_
                                      exact Steps.nil
                                    clear hS
                                    intro at46 w47 hS hI hp
                                    have hBw47_w := hI.1
                                    have hBw47_w3 := hI.2.1
                                    have hBw47_w10 := hI.2.2.1
                                    have hBw47_w15 := hI.2.2.2.1
                                    have hBw47_w21 := hI.2.2.2.2.1
                                    have hBw47_w22 := hI.2.2.2.2.2.1
                                    have hBw47_w28 := hI.2.2.2.2.2.2.1
                                    have hBw47_w42 := hI.2.2.2.2.2.2.2
                                    have hv69 : sl _ 69 = .agg #[.int .i64 t45_1, .int .i64 t45_2, .int .i64 t45_3] := hp 4 (by decide)
                                    have hv70 : sl _ 70 = .bool t45_4 := hp 5 (by decide)
                                    obtain ⟨g48, hv12, hgeg48, hbxg48⟩ := (show IsB _ 26 _ (sl _ 12) _ from hp 6 (by decide))
                                    have hBw47_w47 := Below.refl w47.heap.size w47
                                    have hS := hS.cons hv69
                                    have hS := hS.cons hv70
                                    have hS := hS.cons hv12
                                    clear hp hI hv69 hv70 hv12
                                    show wpList _ _ _ [_, _] _ _
                                    refine list_step rfl (does_store (g := g48) (off := 0) (v := .agg #[.int .i64 t45_1, .int .i64 t45_2, .int .i64 t45_3]) (new := #[.int .i64 t45_1, .int .i64 t45_2, .int .i64 t45_3]) rfl (hS.get 0 rfl) (hS.get 2 rfl) ((hBw47_w47.block g48 (blk_lt hbxg48)).trans hbxg48) (by kernel_rfl) (Nat.le_of_ble_eq_true rfl) (by simp [Value.cells, Value.oneCell']) rfl) ?_
                                    rintro vw49 w49 ⟨rfl, hbxw49, hT⟩
                                    have hBw49_w := hT.below hBw47_w (Nat.le_trans (hBw42_w).size hgeg48) (hBw47_w).size
                                    have hBw49_w3 := hT.below hBw47_w3 (Nat.le_trans (hBw42_w3).size hgeg48) (hBw47_w3).size
                                    have hBw49_w10 := hT.below hBw47_w10 (Nat.le_trans (hBw42_w10).size hgeg48) (hBw47_w10).size
                                    have hBw49_w15 := hT.below hBw47_w15 (Nat.le_trans (hBw42_w15).size hgeg48) (hBw47_w15).size
                                    have hBw49_w21 := hT.below hBw47_w21 (Nat.le_trans (hBw42_w21).size hgeg48) (hBw47_w21).size
                                    have hBw49_w22 := hT.below hBw47_w22 (Nat.le_trans (hBw42_w22).size hgeg48) (hBw47_w22).size
                                    have hBw49_w28 := hT.below hBw47_w28 (Nat.le_trans (hBw42_w28).size hgeg48) (hBw47_w28).size
                                    have hBw49_w42 := hT.below hBw47_w42 hgeg48 (hBw47_w42).size
                                    have hBw49_w49 := Below.refl w49.heap.size w49
                                    clear hT
                                    refine list_step rfl (R := fun v w' => Below _ _ w' ∧ (IsV (.bool t45_4)) v w') (does_val (x_assign rfl (hS.get 1 rfl)) rfl) ?_
                                    rintro vw50 w50 ⟨hb, he⟩
                                    have hBw50_w := below_step hBw49_w hb
                                    have hBw50_w3 := below_step hBw49_w3 hb
                                    have hBw50_w10 := below_step hBw49_w10 hb
                                    have hBw50_w15 := below_step hBw49_w15 hb
                                    have hBw50_w21 := below_step hBw49_w21 hb
                                    have hBw50_w22 := below_step hBw49_w22 hb
                                    have hBw50_w28 := below_step hBw49_w28 hb
                                    have hBw50_w42 := below_step hBw49_w42 hb
                                    have hBw50_w49 := below_step hBw49_w49 hb
                                    have hBw50_w50 := Below.refl w50.heap.size w50
                                    obtain rfl : vw50 = .bool t45_4 := he
                                    replace hS := hS.put (v := .bool t45_4) (d := 13) (by decide) (by rfl)
                                    refine wpList_nil ?_
                                    refine hK43 _ _ ?_
                                    clear hK43 K43
                                    refine wp_seq_k (fun K51 hK51 => ?_)
                                    replace hS := (((((((((((((((((((((((hS.nil).cons (hS.get 23 rfl)).cons (hS.get 22 rfl)).cons (hS.get 21 rfl)).cons (hS.get 20 rfl)).cons (hS.get 18 rfl)).cons (hS.get 17 rfl)).cons (hS.get 16 rfl)).cons (hS.get 15 rfl)).cons (hS.get 14 rfl)).cons (hS.get 13 rfl)).cons (hS.get 12 rfl)).cons (hS.get 11 rfl)).cons (hS.get 10 rfl)).cons (hS.get 9 rfl)).cons (hS.get 8 rfl)).cons (hS.get 7 rfl)).cons (hS.get 6 rfl)).cons (hS.get 5 rfl)).cons (hS.get 4 rfl)).cons (hS.get 3 rfl)).cons (hS.get 2 rfl)).cons (hS.get 1 rfl)).cons (hS.get 0 rfl)
                                    refine reg_seq (N := 92) (bs := [(13, .bool t45_4), (12, .pointer (some ⟨g48, 0, none⟩)), (70, .bool t45_4), (69, .agg #[.int .i64 t45_1, .int .i64 t45_2, .int .i64 t45_3]), (63, .bool (!t40)), (60, .bool (!(t17_4 == t24_4))), (11, .bool t24_4), (10, .pointer (some ⟨g27, 0, none⟩)), (32, .bool t24_4), (31, .agg #[.int .i64 t24_1, .int .i64 t24_2, .int .i64 t24_3]), (9, .bool t17_4), (8, .pointer (some ⟨g20, 0, none⟩)), (26, .bool t17_4), (25, .agg #[.int .i64 t17_1, .int .i64 t17_2, .int .i64 t17_3]), (7, .slice A11 (((l0 ++ [99] : List Int).take ((l0.length : Int) : Int).toNat).length) C11), (20, .slice A11 (((l0 ++ [99] : List Int).take ((l0.length : Int) : Int).toNat).length) C11), (19, .int .i64 (l0.length : Int)), (18, .slice A0 l0.length c0), (17, .slice A11 ((l0 ++ [99] : List Int).length) C11), (4, .pointer (some ⟨g4, 0, none⟩)), (0, .slice A0 l0.length c0), (1, .agg #[.int .i64 a1_0, .int .i64 a1_1, .int .i64 a1_2]), (2, .int .i64 a2)]) (I := fun x => Below w.heap.size w x ∧ Below w3.heap.size w3 x ∧ Below w10.heap.size w10 x ∧ Below w15.heap.size w15 x ∧ Below w21.heap.size w21 x ∧ Below w22.heap.size w22 x ∧ Below w28.heap.size w28 x ∧ Below w42.heap.size w42 x ∧ Below w49.heap.size w49 x ∧ Below w50.heap.size w50 x) (ps := [IsV (.bool t45_4), IsV (.bool t45_4), IsV (.agg #[.int .i64 t45_1, .int .i64 t45_2, .int .i64 t45_3]), IsV (.agg #[.int .i64 a1_0, .int .i64 a1_1, .int .i64 a1_2]), IsV (.bool ((t45_1 == a1_0) && ((t45_2 == a1_1) && (t45_3 == a1_2)))), IsV (.bool ((t45_1 == a1_0) && ((t45_2 == a1_1) && (t45_3 == a1_2)))), IsV (.bool ((t45_1 == a1_0) && ((t45_2 == a1_1) && (t45_3 == a1_2)))), IsV (.slice A11 (((l0 ++ [99] : List Int).take ((l0.length : Int) : Int).toNat).length) C11), IsV (.slice A0 l0.length c0), IsV (.int .i64 (l0.length : Int)), IsV (.int .i64 (wrap64 ((l0.length : Int) + 1))), IsV (.slice A11 (((l0 ++ [99] : List Int).take (wrap64 ((l0.length : Int) + 1) : Int).toNat).length) C11), IsV (.slice A0 l0.length c0), IsV (.int .i64 (l0.length : Int)), IsA (.int .u8 (rd (l0 ++ [99] : List Int) (l0.length : Int))), IsV (.int .u8 (rd (l0 ++ [99] : List Int) (l0.length : Int))), IsV (.bool (decide ((rd (l0 ++ [99] : List Int) (l0.length : Int)) = 99))), IsV (.bool (decide ((rd (l0 ++ [99] : List Int) (l0.length : Int)) = 99))), IsV (.bool (decide ((rd (l0 ++ [99] : List Int) (l0.length : Int)) = 99))), IsV (.bool t52), IsV (.bool t52), IsV (.bool t52)]) (by kernel_rfl) ?_ ?_ rfl hS ⟨hBw50_w, hBw50_w3, hBw50_w10, hBw50_w15, hBw50_w21, hBw50_w22, hBw50_w28, hBw50_w42, hBw50_w49, hBw50_w50⟩ ?_ ?_
                                    · exact fun x y hI hb => ⟨below_step hI.1 hb, below_step hI.2.1 hb, below_step hI.2.2.1 hb, below_step hI.2.2.2.1 hb, below_step hI.2.2.2.2.1 hb, below_step hI.2.2.2.2.2.1 hb, below_step hI.2.2.2.2.2.2.1 hb, below_step hI.2.2.2.2.2.2.2.1 hb, below_step hI.2.2.2.2.2.2.2.2.1 hb, below_step hI.2.2.2.2.2.2.2.2.2 hb⟩
                                    · exact AllStay.cons (Stays.v _) (AllStay.cons (Stays.v _) (AllStay.cons (Stays.v _) (AllStay.cons (Stays.v _) (AllStay.cons (Stays.v _) (AllStay.cons (Stays.v _) (AllStay.cons (Stays.v _) (AllStay.cons (Stays.v _) (AllStay.cons (Stays.v _) (AllStay.cons (Stays.v _) (AllStay.cons (Stays.v _) (AllStay.cons (Stays.v _) (AllStay.cons (Stays.v _) (AllStay.cons (Stays.v _) (AllStay.cons (Stays.a _) (AllStay.cons (Stays.v _) (AllStay.cons (Stays.v _) (AllStay.cons (Stays.v _) (AllStay.cons (Stays.v _) (AllStay.cons (Stays.v _) (AllStay.cons (Stays.v _) (AllStay.cons (Stays.v _) (AllStay.nil))))))))))))))))))))))
                                    · refine Steps.cons (fun a w hS hI hp => ok_on rfl (does_val (x_move rfl (hS.get 0 rfl)) rfl)) ?_
                                      refine Steps.cons (fun a w hS hI hp => ok_on rfl (does_val (x_move rfl ((hp.get 0 (by rfl) rfl rfl))) rfl)) ?_
                                      refine Steps.cons (fun a w hS hI hp => ok_if (d := 72) rfl rfl (by rw [hS.size]; decide) (((hp.get 1 (by rfl) rfl rfl)).trans (bT c11)) (does_loadrow rfl (hS.get 1 rfl) (((hI.2.2.2.2.2.2.2.2.1).block g48 (blk_lt hbxw49)).trans hbxw49) Try.underlying26 rfl (by kernel_rfl) rfl)) ?_
                                      refine Steps.cons (fun a w hS hI hp => ok_if (d := 72) rfl rfl (by rw [hS.size]; decide) (((hp.get 1 (by rfl) rfl rfl)).trans (bT c11)) (does_loadrow rfl (hS.get 19 rfl) (((hI.2.1).block g4 (blk_lt hbxg4)).trans hbxg4) Try.underlying26 rfl (by kernel_rfl) rfl)) ?_
                                      refine Steps.cons (fun a w hS hI hp => ok_if (d := 72) rfl rfl (by rw [hS.size]; decide) (((hp.get 1 (by rfl) rfl rfl)).trans (bT c11)) (does_val (x_bin rfl ((hp.get 2 (by rfl) rfl rfl)) ((hp.get 3 (by rfl) rfl rfl)) (carillonlaw05_QualityBytes.eql26 _ _ _ t45_1 t45_2 t45_3 a1_0 a1_1 a1_2)) rfl)) ?_
                                      refine Steps.cons (fun a w hS hI hp => ok_on rfl (does_val (x_pickT rfl (((hp.get 1 (by rfl) rfl rfl)).trans (bT c11)) ((hp.get 4 (by rfl) rfl rfl))) rfl)) ?_
                                      refine Steps.cons (fun a w hS hI hp => ok_on rfl (does_val (x_move rfl ((hp.get 5 (by rfl) rfl rfl))) rfl)) ?_
                                      refine Steps.cons (fun a w hS hI hp => ok_if (d := 77) rfl rfl (by rw [hS.size]; decide) (((hp.get 6 (by rfl) rfl rfl)).trans (bT c12)) (does_val (x_move rfl (hS.get 14 rfl)) rfl)) ?_
                                      refine Steps.cons (fun a w hS hI hp => ok_if (d := 77) rfl rfl (by rw [hS.size]; decide) (((hp.get 6 (by rfl) rfl rfl)).trans (bT c12)) (does_val (x_move rfl (hS.get 20 rfl)) rfl)) ?_
                                      refine Steps.cons (fun a w hS hI hp => ok_if (d := 77) rfl rfl (by rw [hS.size]; decide) (((hp.get 6 (by rfl) rfl rfl)).trans (bT c12)) (does_val (x_len (e := 5) rfl (by kernel_rfl) ((hp.get 8 (by rfl) rfl rfl))) rfl)) ?_
                                      refine Steps.cons (fun a w hS hI hp => ok_if (d := 77) rfl rfl (by rw [hS.size]; decide) (((hp.get 6 (by rfl) rfl rfl)).trans (bT c12)) (does_val (x_bin rfl ((hp.get 9 (by rfl) rfl rfl)) (rfl) (b_add _ _ _ _ _)) rfl)) ?_
                                      refine Steps.cons (fun a w hS hI hp => ok_if (d := 77) rfl rfl (by rw [hS.size]; decide) (((hp.get 6 (by rfl) rfl rfl)).trans (bT c12)) (does_val (x_cuthi rfl (e := 5) (xs := (l0 ++ [99] : List Int)) (by kernel_rfl) (by kernel_rfl) ((hp.get 7 (by rfl) rfl rfl)) ((hp.get 10 (by rfl) rfl rfl)) c13 c14 hl11) rfl)) ?_
                                      refine Steps.cons (fun a w hS hI hp => ok_if (d := 77) rfl rfl (by rw [hS.size]; decide) (((hp.get 6 (by rfl) rfl rfl)).trans (bT c12)) (does_val (x_move rfl (hS.get 20 rfl)) rfl)) ?_
                                      refine Steps.cons (fun a w hS hI hp => ok_if (d := 77) rfl rfl (by rw [hS.size]; decide) (((hp.get 6 (by rfl) rfl rfl)).trans (bT c12)) (does_val (x_len (e := 5) rfl (by kernel_rfl) ((hp.get 12 (by rfl) rfl rfl))) rfl)) ?_
                                      refine Steps.cons (fun a w hS hI hp => ok_if (d := 77) rfl rfl (by rw [hS.size]; decide) (((hp.get 6 (by rfl) rfl rfl)).trans (bT c12)) (does_index (e := 5) (xs := (l0 ++ [99] : List Int)) rfl ((hp.get 11 (by rfl) rfl rfl)) ((hp.get 13 (by rfl) rfl rfl)) (by kernel_rfl) (by kernel_rfl) c3 c15 c16 ((Kd.C_below hc11 hI.2.2.1)))) ?_
                                      refine Steps.cons (fun a w hS hI hp => ok_if (d := 77) rfl rfl (by rw [hS.size]; decide) (((hp.get 6 (by rfl) rfl rfl)).trans (bT c12)) (((hp.get 14 (by rfl) rfl rfl)).elim fun _ h_ => does_val (x_load1 (d := .int .u8) rfl h_.1 (by kernel_rfl) rfl h_.2.2) rfl)) ?_
                                      refine Steps.cons (fun a w hS hI hp => ok_if (d := 77) rfl rfl (by rw [hS.size]; decide) (((hp.get 6 (by rfl) rfl rfl)).trans (bT c12)) (does_val (x_bin rfl ((hp.get 15 (by rfl) rfl rfl)) (rfl) (b_eql _ _ _ _ _ _)) rfl)) ?_
                                      refine Steps.cons (fun a w hS hI hp => ok_on rfl (does_val (x_pickT rfl (((hp.get 6 (by rfl) rfl rfl)).trans (bT c12)) ((hp.get 16 (by rfl) rfl rfl))) rfl)) ?_
                                      refine Steps.cons (fun a w hS hI hp => ok_on rfl (does_val (x_move rfl ((hp.get 17 (by rfl) rfl rfl))) rfl)) ?_
                                      refine Steps.cons (fun a w hS hI hp => ok_if (d := 89) rfl rfl (by rw [hS.size]; decide) (((hp.get 18 (by rfl) rfl rfl)).trans (bT (decide_eq_true c17))) (does_call (by kernel_rfl) rfl ((carillonlaw05_awake.calls k  t52 _  At52).mono fun _ _ h => ⟨_, h.1, h.2, rfl⟩))) ?_
                                      refine Steps.cons (fun a w hS hI hp => ok_on rfl (does_val (x_pickT rfl (((hp.get 18 (by rfl) rfl rfl)).trans (bT (decide_eq_true c17))) ((hp.get 19 (by rfl) rfl rfl))) rfl)) ?_
                                      refine Steps.cons (fun a w hS hI hp => ok_on rfl (does_val (x_assign rfl ((hp.get 20 (by rfl) rfl rfl))) rfl)) ?_
                                      exact Steps.nil
                                    clear hS
                                    intro at53 w54 hS hI hp
                                    have hBw54_w := hI.1
                                    have hBw54_w3 := hI.2.1
                                    have hBw54_w10 := hI.2.2.1
                                    have hBw54_w15 := hI.2.2.2.1
                                    have hBw54_w21 := hI.2.2.2.2.1
                                    have hBw54_w22 := hI.2.2.2.2.2.1
                                    have hBw54_w28 := hI.2.2.2.2.2.2.1
                                    have hBw54_w42 := hI.2.2.2.2.2.2.2.1
                                    have hBw54_w49 := hI.2.2.2.2.2.2.2.2.1
                                    have hBw54_w50 := hI.2.2.2.2.2.2.2.2.2
                                    have hv6 : sl _ 6 = .bool t52 := hp 21 (by decide)
                                    have hBw54_w54 := Below.refl w54.heap.size w54
                                    have hS := hS.cons hv6
                                    clear hp hI hv6
                                    refine hK51 _ _ ?_
                                    clear hK51 K51
                                    refine wp_ret ?_
                                    (try simp only [Exit.then, Exit.inBlock])
                                    exact bodyPost_ret (v := .bool true) (by rw [results_tmp rfl]; exact congrArg (Result.ok · _) ((hS.get 0 rfl).trans (congrArg Value.bool hret))) hS.nodef ⟨rfl, hBw54_w⟩
                                  · rw [if_neg c17] at H
                                    exact absurd H (by simp)
                                · rw [if_neg c16] at H
                                  exact absurd H (by simp)
                              · rw [if_neg c15] at H
                                exact absurd H (by simp)
                            · rw [if_neg c14] at H
                              exact absurd H (by simp)
                          · rw [if_neg c13] at H
                            exact absurd H (by simp)
                        · rw [if_neg c12] at H
                          exact absurd H (by simp)
                      · rw [if_neg c11] at H
                        exact absurd H (by simp)
                    · rw [if_neg c10] at H
                      obtain ⟨t44, At44, H⟩ := Option.bind_eq_some_iff.mp H
                      have hret := Option.some.inj H
                      clear H
                      refine calls_of_wp (fn := Try.f8) (by kernel_rfl) rfl ?_
                      have hS := St.enter #[.slice A0 l0.length c0, .agg #[.int .i64 a1_0, .int .i64 a1_1, .int .i64 a1_2], .int .i64 a2] 92 (by simp) [(0, .slice A0 l0.length c0), (1, .agg #[.int .i64 a1_0, .int .i64 a1_1, .int .i64 a1_2]), (2, .int .i64 a2)] (by simp)
                      have HB0 := Below.refl w.heap.size w
                      refine wp_seq_k (fun K1 hK1 => ?_)
                      refine reg_seq (N := 92) (bs := [(0, .slice A0 l0.length c0), (1, .agg #[.int .i64 a1_0, .int .i64 a1_1, .int .i64 a1_2]), (2, .int .i64 a2)]) (I := fun x => Below w.heap.size w x) (ps := [IsB #[.int .i64 a1_0, .int .i64 a1_1, .int .i64 a1_2] 26 w.heap.size, IsV (.bool false)]) (by kernel_rfl) ?_ ?_ rfl hS HB0 ?_ ?_
                      · exact fun x y hI hb => below_step hI hb
                      · exact AllStay.cons (Stays.b _ _ _) (AllStay.cons (Stays.v _) (AllStay.nil))
                      · refine Steps.cons (fun a w hS hI hp => ok_on rfl (does_var (x_box rfl (congrArg Value.cells (hS.get 1 rfl))) (hI).size)) ?_
                        refine Steps.cons (fun a w hS hI hp => ok_on rfl (does_val (x_assign rfl (rfl)) rfl)) ?_
                        exact Steps.nil
                      clear hS
                      intro at2 w3 hS hI hp
                      have hBw3_w := hI
                      obtain ⟨g4, hv4, hgeg4, hbxg4⟩ := (show IsB _ 26 _ (sl _ 4) _ from hp 0 (by decide))
                      have hv6 : sl _ 6 = .bool false := hp 1 (by decide)
                      have hBw3_w3 := Below.refl w3.heap.size w3
                      have hS := hS.cons hv4
                      have hS := hS.cons hv6
                      clear hp hI hv4 hv6
                      refine hK1 _ _ ?_
                      clear hK1 K1
                      refine wp_seq_k (fun K5 hK5 => ?_)
                      refine reg_seq_tail 3 (N := 92) (bs := [(6, .bool false), (4, .pointer (some ⟨g4, 0, none⟩)), (0, .slice A0 l0.length c0), (1, .agg #[.int .i64 a1_0, .int .i64 a1_1, .int .i64 a1_2]), (2, .int .i64 a2)]) (I := fun x => Below w.heap.size w x ∧ Below w3.heap.size w3 x) (ps := [IsV (.slice A0 l0.length c0), IsR (Kd.int .u8) 5 w3.heap.size l0, IsR (Kd.int .u8) 5 w3.heap.size [99]]) (by kernel_rfl) ?_ ?_ rfl hS ⟨hBw3_w, hBw3_w3⟩ ?_ ?_
                      · exact fun x y hI hb => ⟨below_step hI.1 hb, below_step hI.2 hb⟩
                      · exact AllStay.cons (Stays.v _) (AllStay.cons (Stays.r _ _ _ _) (AllStay.cons (Stays.r _ _ _ _) (AllStay.nil)))
                      · refine Steps.cons (fun a w hS hI hp => ok_on rfl (does_val (x_move rfl (hS.get 2 rfl)) rfl)) ?_
                        refine Steps.cons (fun a w hS hI hp => ok_on rfl (does_copy w3.heap.size _ (.tmp 14) 31 5 1 rfl (by kernel_rfl) (by kernel_rfl) (by decide) l0 _ _ (rfl) ((hp.get 0 (by rfl) rfl rfl)) ((Kd.C_below HR0 hI.1)) (hI.2).size c1)) ?_
                        refine Steps.cons (fun a w hS hI hp => ok_on rfl (does_lit w3.heap.size 31 5 1 _ [(0, .int .u8 99)] [99] rfl (by kernel_rfl) (by rw [Array.toList_map]; exact (show [(0, a.eval (.const (.int .u8 99)))] = _ from (li_cons (rfl) rfl))) (by kernel_rfl) rfl (hI.2).size (by decide))) ?_
                        exact Steps.nil
                      clear hS
                      intro at6 w7 hS hI hp
                      have hBw7_w := hI.1
                      have hBw7_w3 := hI.2
                      obtain ⟨A8, C8, hv15, hl8, hc8⟩ := Kd.R_reads (show Kd.R (Kd.int .u8) 5 w7 w3.heap.size (fun _ => True) (sl _ 15) l0 from hp 1 (by decide))
                      have ho8 : Kd.R (Kd.int .u8) 5 w7 w3.heap.size (fun _ => True) (.slice A8 l0.length C8) l0 := hv15 ▸ (hp 1 (by decide))
                      obtain ⟨A9, C9, hv16, hl9, hc9⟩ := Kd.R_reads (show Kd.R (Kd.int .u8) 5 w7 w3.heap.size (fun _ => True) (sl _ 16) [99] from hp 2 (by decide))
                      have ho9 : Kd.R (Kd.int .u8) 5 w7 w3.heap.size (fun _ => True) (.slice A9 [99].length C9) [99] := hv16 ▸ (hp 2 (by decide))
                      have hBw7_w7 := Below.refl w7.heap.size w7
                      have hS := hS.cons hv15
                      have hS := hS.cons hv16
                      clear hp hI hv15 hv16
                      show wpList _ _ _ [_, _, _, _, _] _ _
                      refine list_step rfl (does_more (W := w3) (.tmp 15) (.tmp 16) 31 5 1 rfl (by kernel_rfl) (by kernel_rfl) (by decide) _ l0 [99] _ _ (hS.get 1 rfl) (hS.get 0 rfl) (Kd.R_below ho8 hBw7_w7) (Kd.C_below hc9 hBw7_w7) hBw7_w3 c2) ?_
                      rintro vw10 w10 ⟨hb, hr⟩
                      have hBw10_w := below_step hBw3_w hb
                      have hBw10_w3 := hb
                      replace hS := (((((hS.nil).cons (hS.get 6 rfl)).cons (hS.get 5 rfl)).cons (hS.get 4 rfl)).cons (hS.get 3 rfl)).cons (hS.get 2 rfl)
                      have hBw10_w10 := Below.refl w10.heap.size w10
                      obtain ⟨A11, C11, rfl, hl11, hc11⟩ := Kd.R_reads hr
                      have hr11 := hr
                      clear hr
                      replace hS := hS.put (v := .slice A11 ((l0 ++ [99] : List Int).length) C11) (d := 17) (by decide) (by rfl)
                      refine list_step rfl (R := fun v w' => Below _ _ w' ∧ (IsV (.slice A0 l0.length c0)) v w') (does_val (x_move rfl (hS.get 3 rfl)) rfl) ?_
                      rintro vw12 w12 ⟨hb, he⟩
                      have hBw12_w := below_step hBw10_w hb
                      have hBw12_w3 := below_step hBw10_w3 hb
                      have hBw12_w10 := below_step hBw10_w10 hb
                      have hBw12_w12 := Below.refl w12.heap.size w12
                      obtain rfl : vw12 = .slice A0 l0.length c0 := he
                      replace hS := hS.put (v := .slice A0 l0.length c0) (d := 18) (by decide) (by rfl)
                      refine list_step rfl (R := fun v w' => Below _ _ w' ∧ (IsV (.int .i64 (l0.length : Int))) v w') (does_val (x_len (e := 5) rfl (by kernel_rfl) (hS.get 0 rfl)) rfl) ?_
                      rintro vw13 w13 ⟨hb, he⟩
                      have hBw13_w := below_step hBw12_w hb
                      have hBw13_w3 := below_step hBw12_w3 hb
                      have hBw13_w10 := below_step hBw12_w10 hb
                      have hBw13_w12 := below_step hBw12_w12 hb
                      have hBw13_w13 := Below.refl w13.heap.size w13
                      obtain rfl : vw13 = .int .i64 (l0.length : Int) := he
                      replace hS := hS.put (v := .int .i64 (l0.length : Int)) (d := 19) (by decide) (by rfl)
                      refine list_step rfl (R := fun v w' => Below _ _ w' ∧ (IsV (.slice A11 (((l0 ++ [99] : List Int).take ((l0.length : Int) : Int).toNat).length) C11)) v w') (does_val (x_cuthi rfl (e := 5) (xs := (l0 ++ [99] : List Int)) (by kernel_rfl) (by kernel_rfl) (hS.get 2 rfl) (hS.get 0 rfl) c3 c4 hl11) rfl) ?_
                      rintro vw14 w14 ⟨hb, he⟩
                      have hBw14_w := below_step hBw13_w hb
                      have hBw14_w3 := below_step hBw13_w3 hb
                      have hBw14_w10 := below_step hBw13_w10 hb
                      have hBw14_w13 := below_step hBw13_w13 hb
                      have hBw14_w14 := Below.refl w14.heap.size w14
                      obtain rfl : vw14 = .slice A11 (((l0 ++ [99] : List Int).take ((l0.length : Int) : Int).toNat).length) C11 := he
                      replace hS := hS.put (v := .slice A11 (((l0 ++ [99] : List Int).take ((l0.length : Int) : Int).toNat).length) C11) (d := 20) (by decide) (by rfl)
                      refine list_step rfl (R := fun v w' => Below _ _ w' ∧ (IsV (.slice A11 (((l0 ++ [99] : List Int).take ((l0.length : Int) : Int).toNat).length) C11)) v w') (does_val (x_assign rfl (hS.get 0 rfl)) rfl) ?_
                      rintro vw15 w15 ⟨hb, he⟩
                      have hBw15_w := below_step hBw14_w hb
                      have hBw15_w3 := below_step hBw14_w3 hb
                      have hBw15_w10 := below_step hBw14_w10 hb
                      have hBw15_w14 := below_step hBw14_w14 hb
                      have hBw15_w15 := Below.refl w15.heap.size w15
                      obtain rfl : vw15 = .slice A11 (((l0 ++ [99] : List Int).take ((l0.length : Int) : Int).toNat).length) C11 := he
                      replace hS := hS.put (v := .slice A11 (((l0 ++ [99] : List Int).take ((l0.length : Int) : Int).toNat).length) C11) (d := 7) (by decide) (by rfl)
                      refine wpList_nil ?_
                      refine hK5 _ _ ?_
                      clear hK5 K5
                      refine wp_seq_k (fun K16 hK16 => ?_)
                      refine reg_seq_tail 7 (N := 92) (bs := [(7, .slice A11 (((l0 ++ [99] : List Int).take ((l0.length : Int) : Int).toNat).length) C11), (20, .slice A11 (((l0 ++ [99] : List Int).take ((l0.length : Int) : Int).toNat).length) C11), (19, .int .i64 (l0.length : Int)), (18, .slice A0 l0.length c0), (17, .slice A11 ((l0 ++ [99] : List Int).length) C11), (6, .bool false), (4, .pointer (some ⟨g4, 0, none⟩)), (0, .slice A0 l0.length c0), (1, .agg #[.int .i64 a1_0, .int .i64 a1_1, .int .i64 a1_2]), (2, .int .i64 a2)]) (I := fun x => Below w.heap.size w x ∧ Below w3.heap.size w3 x ∧ Below w10.heap.size w10 x ∧ Below w15.heap.size w15 x) (ps := [IsV (.slice A11 (((l0 ++ [99] : List Int).take ((l0.length : Int) : Int).toNat).length) C11), IsV (.int .i64 a2), IsV (.tuple #[.agg #[.int .i64 t17_1, .int .i64 t17_2, .int .i64 t17_3], .bool t17_4]), IsV (.tuple #[.agg #[.int .i64 t17_1, .int .i64 t17_2, .int .i64 t17_3], .bool t17_4]), IsV (.agg #[.int .i64 t17_1, .int .i64 t17_2, .int .i64 t17_3]), IsV (.bool t17_4), IsB #[.int .i64 0, .int .i64 0, .int .i64 0] 26 w15.heap.size]) (by kernel_rfl) ?_ ?_ rfl hS ⟨hBw15_w, hBw15_w3, hBw15_w10, hBw15_w15⟩ ?_ ?_
                      · exact fun x y hI hb => ⟨below_step hI.1 hb, below_step hI.2.1 hb, below_step hI.2.2.1 hb, below_step hI.2.2.2 hb⟩
                      · exact AllStay.cons (Stays.v _) (AllStay.cons (Stays.v _) (AllStay.cons (Stays.v _) (AllStay.cons (Stays.v _) (AllStay.cons (Stays.v _) (AllStay.cons (Stays.v _) (AllStay.cons (Stays.b _ _ _) (AllStay.nil)))))))
                      · refine Steps.cons (fun a w hS hI hp => ok_on rfl (does_val (x_move rfl (hS.get 0 rfl)) rfl)) ?_
                        refine Steps.cons (fun a w hS hI hp => ok_on rfl (does_val (x_move rfl (hS.get 9 rfl)) rfl)) ?_
                        refine Steps.cons (fun a w hS hI hp => ok_on rfl (does_call (by kernel_rfl) (ar2 ((hp.get 0 (by rfl) rfl rfl)) ((hp.get 1 (by rfl) rfl rfl))) ((quality_Get.calls k _ _ ((l0 ++ [99] : List Int).take ((l0.length : Int) : Int).toNat) a2 t17_1 t17_2 t17_3 t17_4 _ (Kd.C_take (m := ((l0.length : Int) : Int).toNat) (Kd.C_below hc11 hI.2.2.1) (by have := c4; omega)) (Nat.le_trans (List.length_take_le' _ _) hl11) At17).mono fun _ _ h => ⟨_, h.1, h.2, rfl⟩))) ?_
                        refine Steps.cons (fun a w hS hI hp => ok_on rfl (does_val (x_move rfl ((hp.get 2 (by rfl) rfl rfl))) rfl)) ?_
                        refine Steps.cons (fun a w hS hI hp => ok_on rfl (does_val (x_extract rfl ((hp.get 3 (by rfl) rfl rfl)) rfl) rfl)) ?_
                        refine Steps.cons (fun a w hS hI hp => ok_on rfl (does_val (x_extract rfl ((hp.get 3 (by rfl) rfl rfl)) rfl) rfl)) ?_
                        refine Steps.cons (fun a w hS hI hp => ok_on rfl (does_var (x_alloc rfl (by kernel_rfl)) (hI.2.2.2).size)) ?_
                        exact Steps.nil
                      clear hS
                      intro at18 w19 hS hI hp
                      have hBw19_w := hI.1
                      have hBw19_w3 := hI.2.1
                      have hBw19_w10 := hI.2.2.1
                      have hBw19_w15 := hI.2.2.2
                      have hv25 : sl _ 25 = .agg #[.int .i64 t17_1, .int .i64 t17_2, .int .i64 t17_3] := hp 4 (by decide)
                      have hv26 : sl _ 26 = .bool t17_4 := hp 5 (by decide)
                      obtain ⟨g20, hv8, hgeg20, hbxg20⟩ := (show IsB _ 26 _ (sl _ 8) _ from hp 6 (by decide))
                      have hBw19_w19 := Below.refl w19.heap.size w19
                      have hS := hS.cons hv25
                      have hS := hS.cons hv26
                      have hS := hS.cons hv8
                      clear hp hI hv25 hv26 hv8
                      show wpList _ _ _ [_, _] _ _
                      refine list_step rfl (does_store (g := g20) (off := 0) (v := .agg #[.int .i64 t17_1, .int .i64 t17_2, .int .i64 t17_3]) (new := #[.int .i64 t17_1, .int .i64 t17_2, .int .i64 t17_3]) rfl (hS.get 0 rfl) (hS.get 2 rfl) ((hBw19_w19.block g20 (blk_lt hbxg20)).trans hbxg20) (by kernel_rfl) (Nat.le_of_ble_eq_true rfl) (by simp [Value.cells, Value.oneCell']) rfl) ?_
                      rintro vw21 w21 ⟨rfl, hbxw21, hT⟩
                      have hBw21_w := hT.below hBw19_w (Nat.le_trans (hBw15_w).size hgeg20) (hBw19_w).size
                      have hBw21_w3 := hT.below hBw19_w3 (Nat.le_trans (hBw15_w3).size hgeg20) (hBw19_w3).size
                      have hBw21_w10 := hT.below hBw19_w10 (Nat.le_trans (hBw15_w10).size hgeg20) (hBw19_w10).size
                      have hBw21_w15 := hT.below hBw19_w15 hgeg20 (hBw19_w15).size
                      have hBw21_w21 := Below.refl w21.heap.size w21
                      clear hT
                      refine list_step rfl (R := fun v w' => Below _ _ w' ∧ (IsV (.bool t17_4)) v w') (does_val (x_assign rfl (hS.get 1 rfl)) rfl) ?_
                      rintro vw22 w22 ⟨hb, he⟩
                      have hBw22_w := below_step hBw21_w hb
                      have hBw22_w3 := below_step hBw21_w3 hb
                      have hBw22_w10 := below_step hBw21_w10 hb
                      have hBw22_w15 := below_step hBw21_w15 hb
                      have hBw22_w21 := below_step hBw21_w21 hb
                      have hBw22_w22 := Below.refl w22.heap.size w22
                      obtain rfl : vw22 = .bool t17_4 := he
                      replace hS := hS.put (v := .bool t17_4) (d := 9) (by decide) (by rfl)
                      refine wpList_nil ?_
                      refine hK16 _ _ ?_
                      clear hK16 K16
                      refine wp_seq_k (fun K23 hK23 => ?_)
                      refine reg_seq_tail 7 (N := 92) (bs := [(9, .bool t17_4), (8, .pointer (some ⟨g20, 0, none⟩)), (26, .bool t17_4), (25, .agg #[.int .i64 t17_1, .int .i64 t17_2, .int .i64 t17_3]), (7, .slice A11 (((l0 ++ [99] : List Int).take ((l0.length : Int) : Int).toNat).length) C11), (20, .slice A11 (((l0 ++ [99] : List Int).take ((l0.length : Int) : Int).toNat).length) C11), (19, .int .i64 (l0.length : Int)), (18, .slice A0 l0.length c0), (17, .slice A11 ((l0 ++ [99] : List Int).length) C11), (6, .bool false), (4, .pointer (some ⟨g4, 0, none⟩)), (0, .slice A0 l0.length c0), (1, .agg #[.int .i64 a1_0, .int .i64 a1_1, .int .i64 a1_2]), (2, .int .i64 a2)]) (I := fun x => Below w.heap.size w x ∧ Below w3.heap.size w3 x ∧ Below w10.heap.size w10 x ∧ Below w15.heap.size w15 x ∧ Below w21.heap.size w21 x ∧ Below w22.heap.size w22 x) (ps := [IsV (.slice A0 l0.length c0), IsV (.int .i64 a2), IsV (.tuple #[.agg #[.int .i64 t24_1, .int .i64 t24_2, .int .i64 t24_3], .bool t24_4]), IsV (.tuple #[.agg #[.int .i64 t24_1, .int .i64 t24_2, .int .i64 t24_3], .bool t24_4]), IsV (.agg #[.int .i64 t24_1, .int .i64 t24_2, .int .i64 t24_3]), IsV (.bool t24_4), IsB #[.int .i64 0, .int .i64 0, .int .i64 0] 26 w22.heap.size]) (by kernel_rfl) ?_ ?_ rfl hS ⟨hBw22_w, hBw22_w3, hBw22_w10, hBw22_w15, hBw22_w21, hBw22_w22⟩ ?_ ?_
                      · exact fun x y hI hb => ⟨below_step hI.1 hb, below_step hI.2.1 hb, below_step hI.2.2.1 hb, below_step hI.2.2.2.1 hb, below_step hI.2.2.2.2.1 hb, below_step hI.2.2.2.2.2 hb⟩
                      · exact AllStay.cons (Stays.v _) (AllStay.cons (Stays.v _) (AllStay.cons (Stays.v _) (AllStay.cons (Stays.v _) (AllStay.cons (Stays.v _) (AllStay.cons (Stays.v _) (AllStay.cons (Stays.b _ _ _) (AllStay.nil)))))))
                      · refine Steps.cons (fun a w hS hI hp => ok_on rfl (does_val (x_move rfl (hS.get 11 rfl)) rfl)) ?_
                        refine Steps.cons (fun a w hS hI hp => ok_on rfl (does_val (x_move rfl (hS.get 13 rfl)) rfl)) ?_
                        refine Steps.cons (fun a w hS hI hp => ok_on rfl (does_call (by kernel_rfl) (ar2 ((hp.get 0 (by rfl) rfl rfl)) ((hp.get 1 (by rfl) rfl rfl))) ((carillonref05_Get.calls k _ _ l0 a2 t24_1 t24_2 t24_3 t24_4 _ (Kd.C_below HR0 hI.1) HC0 At24).mono fun _ _ h => ⟨_, h.1, h.2, rfl⟩))) ?_
                        refine Steps.cons (fun a w hS hI hp => ok_on rfl (does_val (x_move rfl ((hp.get 2 (by rfl) rfl rfl))) rfl)) ?_
                        refine Steps.cons (fun a w hS hI hp => ok_on rfl (does_val (x_extract rfl ((hp.get 3 (by rfl) rfl rfl)) rfl) rfl)) ?_
                        refine Steps.cons (fun a w hS hI hp => ok_on rfl (does_val (x_extract rfl ((hp.get 3 (by rfl) rfl rfl)) rfl) rfl)) ?_
                        refine Steps.cons (fun a w hS hI hp => ok_on rfl (does_var (x_alloc rfl (by kernel_rfl)) (hI.2.2.2.2.2).size)) ?_
                        exact Steps.nil
                      clear hS
                      intro at25 w26 hS hI hp
                      have hBw26_w := hI.1
                      have hBw26_w3 := hI.2.1
                      have hBw26_w10 := hI.2.2.1
                      have hBw26_w15 := hI.2.2.2.1
                      have hBw26_w21 := hI.2.2.2.2.1
                      have hBw26_w22 := hI.2.2.2.2.2
                      have hv31 : sl _ 31 = .agg #[.int .i64 t24_1, .int .i64 t24_2, .int .i64 t24_3] := hp 4 (by decide)
                      have hv32 : sl _ 32 = .bool t24_4 := hp 5 (by decide)
                      obtain ⟨g27, hv10, hgeg27, hbxg27⟩ := (show IsB _ 26 _ (sl _ 10) _ from hp 6 (by decide))
                      have hBw26_w26 := Below.refl w26.heap.size w26
                      have hS := hS.cons hv31
                      have hS := hS.cons hv32
                      have hS := hS.cons hv10
                      clear hp hI hv31 hv32 hv10
                      show wpList _ _ _ [_, _] _ _
                      refine list_step rfl (does_store (g := g27) (off := 0) (v := .agg #[.int .i64 t24_1, .int .i64 t24_2, .int .i64 t24_3]) (new := #[.int .i64 t24_1, .int .i64 t24_2, .int .i64 t24_3]) rfl (hS.get 0 rfl) (hS.get 2 rfl) ((hBw26_w26.block g27 (blk_lt hbxg27)).trans hbxg27) (by kernel_rfl) (Nat.le_of_ble_eq_true rfl) (by simp [Value.cells, Value.oneCell']) rfl) ?_
                      rintro vw28 w28 ⟨rfl, hbxw28, hT⟩
                      have hBw28_w := hT.below hBw26_w (Nat.le_trans (hBw22_w).size hgeg27) (hBw26_w).size
                      have hBw28_w3 := hT.below hBw26_w3 (Nat.le_trans (hBw22_w3).size hgeg27) (hBw26_w3).size
                      have hBw28_w10 := hT.below hBw26_w10 (Nat.le_trans (hBw22_w10).size hgeg27) (hBw26_w10).size
                      have hBw28_w15 := hT.below hBw26_w15 (Nat.le_trans (hBw22_w15).size hgeg27) (hBw26_w15).size
                      have hBw28_w21 := hT.below hBw26_w21 (Nat.le_trans (hBw22_w21).size hgeg27) (hBw26_w21).size
                      have hBw28_w22 := hT.below hBw26_w22 hgeg27 (hBw26_w22).size
                      have hBw28_w28 := Below.refl w28.heap.size w28
                      clear hT
                      refine list_step rfl (R := fun v w' => Below _ _ w' ∧ (IsV (.bool t24_4)) v w') (does_val (x_assign rfl (hS.get 1 rfl)) rfl) ?_
                      rintro vw29 w29 ⟨hb, he⟩
                      have hBw29_w := below_step hBw28_w hb
                      have hBw29_w3 := below_step hBw28_w3 hb
                      have hBw29_w10 := below_step hBw28_w10 hb
                      have hBw29_w15 := below_step hBw28_w15 hb
                      have hBw29_w21 := below_step hBw28_w21 hb
                      have hBw29_w22 := below_step hBw28_w22 hb
                      have hBw29_w28 := below_step hBw28_w28 hb
                      have hBw29_w29 := Below.refl w29.heap.size w29
                      obtain rfl : vw29 = .bool t24_4 := he
                      replace hS := hS.put (v := .bool t24_4) (d := 11) (by decide) (by rfl)
                      refine wpList_nil ?_
                      refine hK23 _ _ ?_
                      clear hK23 K23
                      refine wp_seq_k (fun K30 hK30 => ?_)
                      refine wp_seq_k (fun K31 hK31 => ?_)
                      refine reg_any (N := 92) (bs := [(11, .bool t24_4), (10, .pointer (some ⟨g27, 0, none⟩)), (32, .bool t24_4), (31, .agg #[.int .i64 t24_1, .int .i64 t24_2, .int .i64 t24_3]), (9, .bool t17_4), (8, .pointer (some ⟨g20, 0, none⟩)), (26, .bool t17_4), (25, .agg #[.int .i64 t17_1, .int .i64 t17_2, .int .i64 t17_3]), (7, .slice A11 (((l0 ++ [99] : List Int).take ((l0.length : Int) : Int).toNat).length) C11), (20, .slice A11 (((l0 ++ [99] : List Int).take ((l0.length : Int) : Int).toNat).length) C11), (19, .int .i64 (l0.length : Int)), (18, .slice A0 l0.length c0), (17, .slice A11 ((l0 ++ [99] : List Int).length) C11), (6, .bool false), (4, .pointer (some ⟨g4, 0, none⟩)), (0, .slice A0 l0.length c0), (1, .agg #[.int .i64 a1_0, .int .i64 a1_1, .int .i64 a1_2]), (2, .int .i64 a2)]) (I := fun x => Below w.heap.size w x ∧ Below w3.heap.size w3 x ∧ Below w10.heap.size w10 x ∧ Below w15.heap.size w15 x ∧ Below w21.heap.size w21 x ∧ Below w22.heap.size w22 x ∧ Below w28.heap.size w28 x ∧ Below w29.heap.size w29 x) (ps := [IsV (.slice A11 (((l0 ++ [99] : List Int).take ((l0.length : Int) : Int).toNat).length) C11), IsV (.agg #[.int .i64 a1_0, .int .i64 a1_1, .int .i64 a1_2]), IsR (Kd.int .u8) 5 w29.heap.size t32, IsV (.string (strOfNums t32)), IsV (.slice A0 l0.length c0), IsV (.string (strOfNums l0)), IsV (.agg #[.int .i64 a1_0, .int .i64 a1_1, .int .i64 a1_2]), IsR (Kd.int .u8) 5 w29.heap.size t33, IsV (.string (strOfNums t33)), IsV (.string ((strOfNums l0) ++ (strOfNums t33))), IsV (.bool (!((strOfNums t32).toList == ((strOfNums l0) ++ (strOfNums t33)).toList))), IsV (.bool (!((strOfNums t32).toList == ((strOfNums l0) ++ (strOfNums t33)).toList))), IsV (.agg #[.int .i64 a1_0, .int .i64 a1_1, .int .i64 a1_2]), IsV (.bool t34), IsV (.agg #[.int .i64 a1_0, .int .i64 a1_1, .int .i64 a1_2]), IsV (.bool t35), IsV (.bool (!(t34 == t35))), IsV (.bool (!(t34 == t35))), IsV (.bool (!(t34 == t35))), IsV (.agg #[.int .i64 t17_1, .int .i64 t17_2, .int .i64 t17_3]), IsV (.agg #[.int .i64 t24_1, .int .i64 t24_2, .int .i64 t24_3]), IsV (.bool (!((t17_1 == t24_1) && ((t17_2 == t24_2) && (t17_3 == t24_3))))), IsV (.bool (!((t17_1 == t24_1) && ((t17_2 == t24_2) && (t17_3 == t24_3))))), IsV (.bool (!((t17_1 == t24_1) && ((t17_2 == t24_2) && (t17_3 == t24_3))))), IsV (.bool t17_4), IsV (.bool t24_4), IsV (.bool (!(t17_4 == t24_4))), IsV (.bool (!(t17_4 == t24_4)))]) (by kernel_rfl) (by kernel_rfl) ?_ ?_ rfl hS ⟨hBw29_w, hBw29_w3, hBw29_w10, hBw29_w15, hBw29_w21, hBw29_w22, hBw29_w28, hBw29_w29⟩ ?_ ?_
                      · exact fun x y hI hb => ⟨below_step hI.1 hb, below_step hI.2.1 hb, below_step hI.2.2.1 hb, below_step hI.2.2.2.1 hb, below_step hI.2.2.2.2.1 hb, below_step hI.2.2.2.2.2.1 hb, below_step hI.2.2.2.2.2.2.1 hb, below_step hI.2.2.2.2.2.2.2 hb⟩
                      · exact AllStay.cons (Stays.v _) (AllStay.cons (Stays.v _) (AllStay.cons (Stays.r _ _ _ _) (AllStay.cons (Stays.v _) (AllStay.cons (Stays.v _) (AllStay.cons (Stays.v _) (AllStay.cons (Stays.v _) (AllStay.cons (Stays.r _ _ _ _) (AllStay.cons (Stays.v _) (AllStay.cons (Stays.v _) (AllStay.cons (Stays.v _) (AllStay.cons (Stays.v _) (AllStay.cons (Stays.v _) (AllStay.cons (Stays.v _) (AllStay.cons (Stays.v _) (AllStay.cons (Stays.v _) (AllStay.cons (Stays.v _) (AllStay.cons (Stays.v _) (AllStay.cons (Stays.v _) (AllStay.cons (Stays.v _) (AllStay.cons (Stays.v _) (AllStay.cons (Stays.v _) (AllStay.cons (Stays.v _) (AllStay.cons (Stays.v _) (AllStay.cons (Stays.v _) (AllStay.cons (Stays.v _) (AllStay.cons (Stays.v _) (AllStay.cons (Stays.v _) (AllStay.nil))))))))))))))))))))))))))))
                      · refine Steps.cons (fun a w hS hI hp => ok_on rfl (does_val (x_move rfl (hS.get 8 rfl)) rfl)) ?_
                        refine Steps.cons (fun a w hS hI hp => ok_on rfl (does_loadrow rfl (hS.get 14 rfl) (((hI.2.1).block g4 (blk_lt hbxg4)).trans hbxg4) Try.underlying26 rfl (by kernel_rfl) rfl)) ?_
                        refine Steps.cons (fun a w hS hI hp => ok_on rfl (does_call (by kernel_rfl) (ar2 ((hp.get 0 (by rfl) rfl rfl)) ((hp.get 1 (by rfl) rfl rfl))) ((quality_Put.calls _ _ ((l0 ++ [99] : List Int).take ((l0.length : Int) : Int).toNat) a1_0 a1_1 a1_2 t32 _ (Kd.C_take (m := ((l0.length : Int) : Int).toNat) (Kd.C_below hc11 hI.2.2.1) (by have := c4; omega)) (Nat.le_trans (List.length_take_le' _ _) hl11) At32).mono fun _ _ h => h.elim fun v0 h => ⟨v0, h.1, h.2.2, Kd.R_lower h.2.1 hI.2.2.2.2.2.2.2.size⟩))) ?_
                        refine Steps.cons (fun a w hS hI hp => ok_on rfl ((IsC.of_r ((hp.get 2 (by rfl) rfl rfl))).elim fun A_ h_ => h_.elim fun c_ h_ => h_.elim fun hv_ h_ => h_.elim fun hl_ hc_ => does_val (x_conv rfl hv_ (Kd.C_string (by kernel_rfl) (e := 5) (by kernel_rfl) (by kernel_rfl) hc_)) rfl)) ?_
                        refine Steps.cons (fun a w hS hI hp => ok_on rfl (does_val (x_move rfl (hS.get 15 rfl)) rfl)) ?_
                        refine Steps.cons (fun a w hS hI hp => ok_on rfl (does_val (x_conv rfl ((hp.get 4 (by rfl) rfl rfl)) (Kd.C_string (by kernel_rfl) (e := 5) (by kernel_rfl) (by kernel_rfl) (Kd.C_below HR0 hI.1))) rfl)) ?_
                        refine Steps.cons (fun a w hS hI hp => ok_on rfl (does_loadrow rfl (hS.get 14 rfl) (((hI.2.1).block g4 (blk_lt hbxg4)).trans hbxg4) Try.underlying26 rfl (by kernel_rfl) rfl)) ?_
                        refine Steps.cons (fun a w hS hI hp => ok_on rfl (does_call (by kernel_rfl) (ar1 ((hp.get 6 (by rfl) rfl rfl))) ((carillonref05_Put.calls k a1_0 a1_1 a1_2 t33 _  At33).mono fun _ _ h => h.elim fun v0 h => ⟨v0, h.1, h.2.2, Kd.R_lower h.2.1 hI.2.2.2.2.2.2.2.size⟩))) ?_
                        refine Steps.cons (fun a w hS hI hp => ok_on rfl ((IsC.of_r ((hp.get 7 (by rfl) rfl rfl))).elim fun A_ h_ => h_.elim fun c_ h_ => h_.elim fun hv_ h_ => h_.elim fun hl_ hc_ => does_val (x_conv rfl hv_ (Kd.C_string (by kernel_rfl) (e := 5) (by kernel_rfl) (by kernel_rfl) hc_)) rfl)) ?_
                        refine Steps.cons (fun a w hS hI hp => ok_on rfl (does_val (x_bin rfl ((hp.get 5 (by rfl) rfl rfl)) ((hp.get 8 (by rfl) rfl rfl)) (b_adds _ _ _ _ _ c5)) rfl)) ?_
                        refine Steps.cons (fun a w hS hI hp => ok_on rfl (does_val (x_bin rfl ((hp.get 3 (by rfl) rfl rfl)) ((hp.get 9 (by rfl) rfl rfl)) (b_nes _ _ _ _ _)) rfl)) ?_
                        refine Steps.cons (fun a w hS hI hp => ok_on rfl (does_val (x_move rfl ((hp.get 10 (by rfl) rfl rfl))) rfl)) ?_
                        refine Steps.cons (fun a w hS hI hp => ok_if (d := 44) rfl rfl (by rw [hS.size]; decide) (((hp.get 11 (by rfl) rfl rfl)).trans (bF (congrArg (!·) c6))) (does_loadrow rfl (hS.get 14 rfl) (((hI.2.1).block g4 (blk_lt hbxg4)).trans hbxg4) Try.underlying26 rfl (by kernel_rfl) rfl)) ?_
                        refine Steps.cons (fun a w hS hI hp => ok_if (d := 44) rfl rfl (by rw [hS.size]; decide) (((hp.get 11 (by rfl) rfl rfl)).trans (bF (congrArg (!·) c6))) (does_call (by kernel_rfl) (ar1 ((hp.get 12 (by rfl) rfl rfl))) ((quality_May.calls a1_0 a1_1 a1_2 t34 _  At34).mono fun _ _ h => ⟨_, h.1, h.2, rfl⟩))) ?_
                        refine Steps.cons (fun a w hS hI hp => ok_if (d := 44) rfl rfl (by rw [hS.size]; decide) (((hp.get 11 (by rfl) rfl rfl)).trans (bF (congrArg (!·) c6))) (does_loadrow rfl (hS.get 14 rfl) (((hI.2.1).block g4 (blk_lt hbxg4)).trans hbxg4) Try.underlying26 rfl (by kernel_rfl) rfl)) ?_
                        refine Steps.cons (fun a w hS hI hp => ok_if (d := 44) rfl rfl (by rw [hS.size]; decide) (((hp.get 11 (by rfl) rfl rfl)).trans (bF (congrArg (!·) c6))) (does_call (by kernel_rfl) (ar1 ((hp.get 14 (by rfl) rfl rfl))) ((carillonref05_May.calls a1_0 a1_1 a1_2 t35 _  At35).mono fun _ _ h => ⟨_, h.1, h.2, rfl⟩))) ?_
                        refine Steps.cons (fun a w hS hI hp => ok_if (d := 44) rfl rfl (by rw [hS.size]; decide) (((hp.get 11 (by rfl) rfl rfl)).trans (bF (congrArg (!·) c6))) (does_val (x_bin rfl ((hp.get 13 (by rfl) rfl rfl)) ((hp.get 15 (by rfl) rfl rfl)) (b_neb _ _ _ _ _ (by kernel_rfl))) rfl)) ?_
                        refine Steps.cons (fun a w hS hI hp => ok_on rfl (does_val (x_pickF rfl (((hp.get 11 (by rfl) rfl rfl)).trans (bF (congrArg (!·) c6))) ((hp.get 16 (by rfl) rfl rfl))) rfl)) ?_
                        refine Steps.cons (fun a w hS hI hp => ok_on rfl (does_val (x_move rfl ((hp.get 17 (by rfl) rfl rfl))) rfl)) ?_
                        refine Steps.cons (fun a w hS hI hp => ok_if (d := 51) rfl rfl (by rw [hS.size]; decide) (((hp.get 18 (by rfl) rfl rfl)).trans (bF (congrArg (!·) c7))) (does_loadrow rfl (hS.get 5 rfl) (((hI.2.2.2.2.1).block g20 (blk_lt hbxw21)).trans hbxw21) Try.underlying26 rfl (by kernel_rfl) rfl)) ?_
                        refine Steps.cons (fun a w hS hI hp => ok_if (d := 51) rfl rfl (by rw [hS.size]; decide) (((hp.get 18 (by rfl) rfl rfl)).trans (bF (congrArg (!·) c7))) (does_loadrow rfl (hS.get 1 rfl) (((hI.2.2.2.2.2.2.1).block g27 (blk_lt hbxw28)).trans hbxw28) Try.underlying26 rfl (by kernel_rfl) rfl)) ?_
                        refine Steps.cons (fun a w hS hI hp => ok_if (d := 51) rfl rfl (by rw [hS.size]; decide) (((hp.get 18 (by rfl) rfl rfl)).trans (bF (congrArg (!·) c7))) (does_val (x_bin rfl ((hp.get 19 (by rfl) rfl rfl)) ((hp.get 20 (by rfl) rfl rfl)) (carillonlaw05_QualityBytes.neq26 _ _ _ t17_1 t17_2 t17_3 t24_1 t24_2 t24_3)) rfl)) ?_
                        refine Steps.cons (fun a w hS hI hp => ok_on rfl (does_val (x_pickF rfl (((hp.get 18 (by rfl) rfl rfl)).trans (bF (congrArg (!·) c7))) ((hp.get 21 (by rfl) rfl rfl))) rfl)) ?_
                        refine Steps.cons (fun a w hS hI hp => ok_on rfl (does_val (x_move rfl ((hp.get 22 (by rfl) rfl rfl))) rfl)) ?_
                        refine Steps.cons (fun a w hS hI hp => ok_if (d := 56) rfl rfl (by rw [hS.size]; decide) (((hp.get 23 (by rfl) rfl rfl)).trans (bF (congrArg (!·) c8))) (does_val (x_move rfl (hS.get 4 rfl)) rfl)) ?_
                        refine Steps.cons (fun a w hS hI hp => ok_if (d := 56) rfl rfl (by rw [hS.size]; decide) (((hp.get 23 (by rfl) rfl rfl)).trans (bF (congrArg (!·) c8))) (does_val (x_move rfl (hS.get 0 rfl)) rfl)) ?_
                        refine Steps.cons (fun a w hS hI hp => ok_if (d := 56) rfl rfl (by rw [hS.size]; decide) (((hp.get 23 (by rfl) rfl rfl)).trans (bF (congrArg (!·) c8))) (does_val (x_bin rfl ((hp.get 24 (by rfl) rfl rfl)) ((hp.get 25 (by rfl) rfl rfl)) (b_neb _ _ _ _ _ (by kernel_rfl))) rfl)) ?_
                        refine Steps.cons (fun a w hS hI hp => ok_on rfl (does_val (x_pickF rfl (((hp.get 23 (by rfl) rfl rfl)).trans (bF (congrArg (!·) c8))) ((hp.get 26 (by rfl) rfl rfl))) rfl)) ?_
                        exact Steps.nil
                      clear hS
                      intro at36 w37 hS hI hp
                      have hBw37_w := hI.1
                      have hBw37_w3 := hI.2.1
                      have hBw37_w10 := hI.2.2.1
                      have hBw37_w15 := hI.2.2.2.1
                      have hBw37_w21 := hI.2.2.2.2.1
                      have hBw37_w22 := hI.2.2.2.2.2.1
                      have hBw37_w28 := hI.2.2.2.2.2.2.1
                      have hBw37_w29 := hI.2.2.2.2.2.2.2
                      have hv60 : sl _ 60 = .bool (!(t17_4 == t24_4)) := hp 27 (by decide)
                      have hBw37_w37 := Below.refl w37.heap.size w37
                      have hS := hS.cons hv60
                      clear hp hI hv60
                      refine hK31 _ _ ?_
                      clear hK31 K31
                      refine wp_cond_false ((hS.get 0 rfl).trans (bF (congrArg (!·) c9))) ?_
                      refine wp_skip ?_
                      refine hK30 _ _ ?_
                      clear hK30 K30
                      refine wp_seq_k (fun K38 hK38 => ?_)
                      refine wp_seq_k (fun K39 hK39 => ?_)
                      refine reg_seq (N := 92) (bs := [(60, .bool (!(t17_4 == t24_4))), (11, .bool t24_4), (10, .pointer (some ⟨g27, 0, none⟩)), (32, .bool t24_4), (31, .agg #[.int .i64 t24_1, .int .i64 t24_2, .int .i64 t24_3]), (9, .bool t17_4), (8, .pointer (some ⟨g20, 0, none⟩)), (26, .bool t17_4), (25, .agg #[.int .i64 t17_1, .int .i64 t17_2, .int .i64 t17_3]), (7, .slice A11 (((l0 ++ [99] : List Int).take ((l0.length : Int) : Int).toNat).length) C11), (20, .slice A11 (((l0 ++ [99] : List Int).take ((l0.length : Int) : Int).toNat).length) C11), (19, .int .i64 (l0.length : Int)), (18, .slice A0 l0.length c0), (17, .slice A11 ((l0 ++ [99] : List Int).length) C11), (6, .bool false), (4, .pointer (some ⟨g4, 0, none⟩)), (0, .slice A0 l0.length c0), (1, .agg #[.int .i64 a1_0, .int .i64 a1_1, .int .i64 a1_2]), (2, .int .i64 a2)]) (I := fun x => Below w.heap.size w x ∧ Below w3.heap.size w3 x ∧ Below w10.heap.size w10 x ∧ Below w15.heap.size w15 x ∧ Below w21.heap.size w21 x ∧ Below w22.heap.size w22 x ∧ Below w28.heap.size w28 x ∧ Below w37.heap.size w37 x) (ps := [IsV (.agg #[.int .i64 a1_0, .int .i64 a1_1, .int .i64 a1_2]), IsV (.bool t40), IsV (.bool (!t40))]) (by kernel_rfl) ?_ ?_ rfl hS ⟨hBw37_w, hBw37_w3, hBw37_w10, hBw37_w15, hBw37_w21, hBw37_w22, hBw37_w28, hBw37_w37⟩ ?_ ?_
                      · exact fun x y hI hb => ⟨below_step hI.1 hb, below_step hI.2.1 hb, below_step hI.2.2.1 hb, below_step hI.2.2.2.1 hb, below_step hI.2.2.2.2.1 hb, below_step hI.2.2.2.2.2.1 hb, below_step hI.2.2.2.2.2.2.1 hb, below_step hI.2.2.2.2.2.2.2 hb⟩
                      · exact AllStay.cons (Stays.v _) (AllStay.cons (Stays.v _) (AllStay.cons (Stays.v _) (AllStay.nil)))
                      · refine Steps.cons (fun a w hS hI hp => ok_on rfl (does_loadrow rfl (hS.get 15 rfl) (((hI.2.1).block g4 (blk_lt hbxg4)).trans hbxg4) Try.underlying26 rfl (by kernel_rfl) rfl)) ?_
                        refine Steps.cons (fun a w hS hI hp => ok_on rfl (does_call (by kernel_rfl) (ar1 ((hp.get 0 (by rfl) rfl rfl))) ((quality_May.calls a1_0 a1_1 a1_2 t40 _  At40).mono fun _ _ h => ⟨_, h.1, h.2, rfl⟩))) ?_
                        refine Steps.cons (fun a w hS hI hp => ok_on rfl (does_val (x_not rfl ((hp.get 1 (by rfl) rfl rfl))) rfl)) ?_
                        exact Steps.nil
                      clear hS
                      intro at41 w42 hS hI hp
                      have hBw42_w := hI.1
                      have hBw42_w3 := hI.2.1
                      have hBw42_w10 := hI.2.2.1
                      have hBw42_w15 := hI.2.2.2.1
                      have hBw42_w21 := hI.2.2.2.2.1
                      have hBw42_w22 := hI.2.2.2.2.2.1
                      have hBw42_w28 := hI.2.2.2.2.2.2.1
                      have hBw42_w37 := hI.2.2.2.2.2.2.2
                      have hv63 : sl _ 63 = .bool (!t40) := hp 2 (by decide)
                      have hBw42_w42 := Below.refl w42.heap.size w42
                      have hS := hS.cons hv63
                      clear hp hI hv63
                      refine hK39 _ _ ?_
                      clear hK39 K39
                      refine wp_cond_true ((hS.get 0 rfl).trans (bT (congrArg (!·) (Bool.eq_false_iff.2 c10)))) ?_
                      refine wp_seq_k (fun K43 hK43 => ?_)
                      replace hS := (((((((((((((((((((hS.nil).cons (hS.get 19 rfl)).cons (hS.get 18 rfl)).cons (hS.get 17 rfl)).cons (hS.get 16 rfl)).cons (hS.get 14 rfl)).cons (hS.get 13 rfl)).cons (hS.get 12 rfl)).cons (hS.get 11 rfl)).cons (hS.get 10 rfl)).cons (hS.get 9 rfl)).cons (hS.get 8 rfl)).cons (hS.get 7 rfl)).cons (hS.get 6 rfl)).cons (hS.get 5 rfl)).cons (hS.get 4 rfl)).cons (hS.get 3 rfl)).cons (hS.get 2 rfl)).cons (hS.get 1 rfl)).cons (hS.get 0 rfl)
                      refine reg_seq (N := 92) (bs := [(63, .bool (!t40)), (60, .bool (!(t17_4 == t24_4))), (11, .bool t24_4), (10, .pointer (some ⟨g27, 0, none⟩)), (32, .bool t24_4), (31, .agg #[.int .i64 t24_1, .int .i64 t24_2, .int .i64 t24_3]), (9, .bool t17_4), (8, .pointer (some ⟨g20, 0, none⟩)), (26, .bool t17_4), (25, .agg #[.int .i64 t17_1, .int .i64 t17_2, .int .i64 t17_3]), (7, .slice A11 (((l0 ++ [99] : List Int).take ((l0.length : Int) : Int).toNat).length) C11), (20, .slice A11 (((l0 ++ [99] : List Int).take ((l0.length : Int) : Int).toNat).length) C11), (19, .int .i64 (l0.length : Int)), (18, .slice A0 l0.length c0), (17, .slice A11 ((l0 ++ [99] : List Int).length) C11), (4, .pointer (some ⟨g4, 0, none⟩)), (0, .slice A0 l0.length c0), (1, .agg #[.int .i64 a1_0, .int .i64 a1_1, .int .i64 a1_2]), (2, .int .i64 a2)]) (I := fun x => Below w.heap.size w x ∧ Below w3.heap.size w3 x ∧ Below w10.heap.size w10 x ∧ Below w15.heap.size w15 x ∧ Below w21.heap.size w21 x ∧ Below w22.heap.size w22 x ∧ Below w28.heap.size w28 x ∧ Below w42.heap.size w42 x) (ps := [IsV (.bool t44), IsV (.bool t44)]) (by kernel_rfl) ?_ ?_ rfl hS ⟨hBw42_w, hBw42_w3, hBw42_w10, hBw42_w15, hBw42_w21, hBw42_w22, hBw42_w28, hBw42_w42⟩ ?_ ?_
                      · exact fun x y hI hb => ⟨below_step hI.1 hb, below_step hI.2.1 hb, below_step hI.2.2.1 hb, below_step hI.2.2.2.1 hb, below_step hI.2.2.2.2.1 hb, below_step hI.2.2.2.2.2.1 hb, below_step hI.2.2.2.2.2.2.1 hb, below_step hI.2.2.2.2.2.2.2 hb⟩
                      · exact AllStay.cons (Stays.v _) (AllStay.cons (Stays.v _) (AllStay.nil))
                      · refine Steps.cons (fun a w hS hI hp => ok_on rfl (does_call (by kernel_rfl) rfl ((carillonlaw05_awake.calls k  t44 _  At44).mono fun _ _ h => ⟨_, h.1, h.2, rfl⟩))) ?_
                        refine Steps.cons (fun a w hS hI hp => ok_on rfl (does_val (x_assign rfl ((hp.get 0 (by rfl) rfl rfl))) rfl)) ?_
                        exact Steps.nil
                      clear hS
                      intro at45 w46 hS hI hp
                      have hBw46_w := hI.1
                      have hBw46_w3 := hI.2.1
                      have hBw46_w10 := hI.2.2.1
                      have hBw46_w15 := hI.2.2.2.1
                      have hBw46_w21 := hI.2.2.2.2.1
                      have hBw46_w22 := hI.2.2.2.2.2.1
                      have hBw46_w28 := hI.2.2.2.2.2.2.1
                      have hBw46_w42 := hI.2.2.2.2.2.2.2
                      have hv6 : sl _ 6 = .bool t44 := hp 1 (by decide)
                      have hBw46_w46 := Below.refl w46.heap.size w46
                      have hS := hS.cons hv6
                      clear hp hI hv6
                      refine hK43 _ _ ?_
                      clear hK43 K43
                      refine wp_ret ?_
                      (try simp only [Exit.then, Exit.inBlock])
                      exact bodyPost_ret (v := .bool true) (by rw [results_tmp rfl]; exact congrArg (Result.ok · _) ((hS.get 0 rfl).trans (congrArg Value.bool hret))) hS.nodef ⟨rfl, hBw46_w⟩
                  · rw [if_neg c9] at H
                    exact absurd H (by simp)
                · rw [if_neg c8] at H
                  exact absurd H (by simp)
              · rw [if_neg c7] at H
                exact absurd H (by simp)
            · rw [if_neg c6] at H
              exact absurd H (by simp)
          · rw [if_neg c5] at H
            exact absurd H (by simp)
        · rw [if_neg c4] at H
          exact absurd H (by simp)
      · rw [if_neg c3] at H
        exact absurd H (by simp)
    · rw [if_neg c2] at H
      exact absurd H (by simp)
  · rw [if_neg c1] at H
    exact absurd H (by simp)

/-- The one pure statement of carillonlaw05_QualityBytes. -/
def carillonlaw05_QualityBytes.Pure : Prop := ∀ (l0 : List Int) (a1_0 : Int) (a1_1 : Int) (a1_2 : Int) (a2 : Int), l0.length ≤ maxLen → l0.length * 1 ≤ 140737488351232 → (∀ x ∈ l0, (Lit.int .u8 x).wf = true) → (Lit.int .i64 a1_0).wf = true → (Lit.int .i64 a1_1).wf = true → (Lit.int .i64 a1_2).wf = true → (Lit.int .i64 a2).wf = true → ∃ k, carillonlaw05_QualityBytes.f k l0 a1_0 a1_1 a1_2 a2 = some true
theorem carillonlaw05_QualityBytes.walk (P : carillonlaw05_QualityBytes.Pure) (a0 : Option Addr) (len0 cap0 : Nat) (z0 : List Int) (a1_0 : Int) (a1_1 : Int) (a1_2 : Int) (a2 : Int) (w : World) (w0 : (a0 = none ∧ len0 = 0 ∧ cap0 = 0 ∧ z0 = []) ∨ ∃ x, a0 = some x ∧ len0 ≤ cap0 ∧ cap0 ≤ maxLen ∧ z0.length = cap0 ∧ (∀ i, i < z0.length → w.cell? (x.add i) = some (.int .u8 (z0.getD i 0))) ∧ ∀ n ∈ z0, (Lit.int .u8 n).wf = true) (y0 : len0 * 1 ≤ 140737488351232) (w1_0 : (Lit.int .i64 a1_0).wf = true) (w1_1 : (Lit.int .i64 a1_1).wf = true) (w1_2 : (Lit.int .i64 a1_2).wf = true) (w2 : (Lit.int .i64 a2).wf = true) :
    Calls Try.prog 8 #[.slice a0 len0 cap0, .agg #[.int .i64 a1_0, .int .i64 a1_1, .int .i64 a1_2], .int .i64 a2] w fun e w' => e = .returned (.bool true) ∧ Below w.heap.size w w' := by
  obtain ⟨l0, rfl, hr0, hm0, hw0, hc0⟩ := ReadsInt.ofRowC w0
  obtain ⟨k, h⟩ := P l0 a1_0 a1_1 a1_2 a2 hm0 y0 hw0 w1_0 w1_1 w1_2 w2
  refine (carillonlaw05_QualityBytes.calls k _ _ l0 a1_0 a1_1 a1_2 a2 w (Kd.C_of_reads (d := (0 : Int)) (h1 := fun _ => rfl) hr0) hc0 h).mono ?_
  rintro e w' ⟨rfl, hd⟩
  exact ⟨rfl, hd⟩

end Go.Proofs.Ytmfahcabdkajnaa.P
