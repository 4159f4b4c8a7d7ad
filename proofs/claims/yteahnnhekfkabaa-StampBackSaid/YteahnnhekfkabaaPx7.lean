/- Functions and loops of the given program as Lean functions, and that the code comes to what they say: written by this session's own program; Lean checks it. -/
import Derived.Test.YteahnnhekfkabaaPx0
import Derived.Test.YteahnnhekfkabaaPx1
import Derived.Test.YteahnnhekfkabaaPx3
import Derived.Test.YteahnnhekfkabaaPx5
import Derived.Test.YteahnnhekfkabaaPx6
namespace Go.Proofs.Yteahnnhekfkabaa.P
open Go.RowKit Go.Proofs.YteahnnhekfkabaaW.PrintWords Go.Proofs.YteahnnhekfkabaaW.PrintLast Go.Proofs.YteahnnhekfkabaaW.PrintMore
attribute [local go_sem] max2_int min2_int max_two min_two max_three min_three max_four min_four   -- for this text's walks alone
set_option linter.unusedVariables false
set_option linter.unusedSimpArgs false

/-! ### carillonlaw02_StampBytes: function 9: by our own printer -/
def carillonlaw02_StampBytes.f (k : Nat) (l0 : List Int) (a1 : Int) (a2 : Int) : Option (Bool) := if l0.length * 1 ≤ 140737488355328 then (if (l0.length + [99].length) * 1 ≤ 140737488355328 then (if 0 ≤ (l0.length : Int) then (if (l0.length : Int) ≤ ((l0 ++ [99] : List Int).length : Int) then ((stamp_Get.f k ((l0 ++ [99] : List Int).take ((l0.length : Int) : Int).toNat) a2).bind fun t16 => ((carillonref02_Get.f k l0 a2).bind fun t20 => ((stamp_Put.f ((l0 ++ [99] : List Int).take ((l0.length : Int) : Int).toNat) a1).bind fun t24 => ((carillonref02_Put.f k a1).bind fun t25 => (if (strOfNums l0).size + (strOfNums t25).size ≤ 9223372036854775807 then (if ((strOfNums t24).toList == ((strOfNums l0) ++ (strOfNums t25)).toList) = true then ((stamp_May.f a1).bind fun t26 => ((carillonref02_May.f a1).bind fun t27 => (if (t26 == t27) = true then (if t16.1 = t20.1 then (if (t16.2 == t20.2) = true then (if 0 ≤ (wrap64 ((l0.length : Int) + 1)) then (if (wrap64 ((l0.length : Int) + 1)) ≤ ((l0 ++ [99] : List Int).length : Int) then (if (l0.length : Int) < (((l0 ++ [99] : List Int).take (wrap64 ((l0.length : Int) + 1) : Int).toNat).length : Int) then (if (l0.length : Int) < ((l0 ++ [99] : List Int).length : Int) then (if (rd (l0 ++ [99] : List Int) (l0.length : Int)) = 99 then ((carillonlaw02_awake.f ).bind fun t28 => (some t28)) else (some false)) else (none)) else (none)) else (none)) else (none)) else (some false)) else (some false)) else (some false)))) else (some false)) else (none)))))) else (none)) else (none)) else (none)) else (none)
open Go.Proofs.Yteahnnhekfkabaa.E in
set_option maxHeartbeats 8000000 in
set_option maxRecDepth 100000 in
theorem carillonlaw02_StampBytes.calls (k : Nat) (A0 : Option Addr) (c0 : Nat) (l0 : List Int) (a1 : Int) (a2 : Int) (w : World) (HR0 : Kd.C (Kd.int .u8) w A0 l0.length l0) (HC0 : l0.length ≤ c0) (h : carillonlaw02_StampBytes.f k l0 a1 a2 = some true) :
    Calls Try.prog 9 #[.slice A0 l0.length c0, .int .i64 a1, .int .i64 a2] w fun e w' => e = .returned (.bool true) ∧ Below w.heap.size w w' := by
  have H := h
  clear h
  unfold carillonlaw02_StampBytes.f at H
  by_cases c1 : l0.length * 1 ≤ 140737488355328
  · rw [if_pos c1] at H
    by_cases c2 : (l0.length + [99].length) * 1 ≤ 140737488355328
    · rw [if_pos c2] at H
      by_cases c3 : 0 ≤ (l0.length : Int)
      · rw [if_pos c3] at H
        by_cases c4 : (l0.length : Int) ≤ ((l0 ++ [99] : List Int).length : Int)
        · rw [if_pos c4] at H
          obtain ⟨t16, At16, H⟩ := Option.bind_eq_some_iff.mp H
          obtain ⟨t16_1, t16_2⟩ := t16
          (try dsimp only at H)
          obtain ⟨t20, At20, H⟩ := Option.bind_eq_some_iff.mp H
          obtain ⟨t20_1, t20_2⟩ := t20
          (try dsimp only at H)
          obtain ⟨t24, At24, H⟩ := Option.bind_eq_some_iff.mp H
          obtain ⟨t25, At25, H⟩ := Option.bind_eq_some_iff.mp H
          by_cases c5 : (strOfNums l0).size + (strOfNums t25).size ≤ 9223372036854775807
          · rw [if_pos c5] at H
            by_cases c6 : ((strOfNums t24).toList == ((strOfNums l0) ++ (strOfNums t25)).toList) = true
            · rw [if_pos c6] at H
              obtain ⟨t26, At26, H⟩ := Option.bind_eq_some_iff.mp H
              obtain ⟨t27, At27, H⟩ := Option.bind_eq_some_iff.mp H
              by_cases c7 : (t26 == t27) = true
              · rw [if_pos c7] at H
                by_cases c8 : t16_1 = t20_1
                · rw [if_pos c8] at H
                  by_cases c9 : (t16_2 == t20_2) = true
                  · rw [if_pos c9] at H
                    by_cases c10 : 0 ≤ (wrap64 ((l0.length : Int) + 1))
                    · rw [if_pos c10] at H
                      by_cases c11 : (wrap64 ((l0.length : Int) + 1)) ≤ ((l0 ++ [99] : List Int).length : Int)
                      · rw [if_pos c11] at H
                        by_cases c12 : (l0.length : Int) < (((l0 ++ [99] : List Int).take (wrap64 ((l0.length : Int) + 1) : Int).toNat).length : Int)
                        · rw [if_pos c12] at H
                          by_cases c13 : (l0.length : Int) < ((l0 ++ [99] : List Int).length : Int)
                          · rw [if_pos c13] at H
                            by_cases c14 : (rd (l0 ++ [99] : List Int) (l0.length : Int)) = 99
                            · rw [if_pos c14] at H
                              obtain ⟨t28, At28, H⟩ := Option.bind_eq_some_iff.mp H
                              have hret := Option.some.inj H
                              clear H
                              refine calls_of_wp (fn := Try.f9) (by kernel_rfl) rfl ?_
                              have hS := St.enter #[.slice A0 l0.length c0, .int .i64 a1, .int .i64 a2] 74 (by simp) [(0, .slice A0 l0.length c0), (1, .int .i64 a1), (2, .int .i64 a2)] (by simp)
                              have HB0 := Below.refl w.heap.size w
                              refine wp_seq_k (fun K1 hK1 => ?_)
                              refine reg_seq (N := 74) (bs := [(0, .slice A0 l0.length c0), (1, .int .i64 a1), (2, .int .i64 a2)]) (I := fun x => Below w.heap.size w x) (ps := [IsV (.bool false)]) (by kernel_rfl) ?_ ?_ rfl hS HB0 ?_ ?_
                              · exact fun x y hI hb => below_step hI hb
                              · exact AllStay.cons (Stays.v _) (AllStay.nil)
                              · refine Steps.cons (fun a w hS hI hp => ok_on rfl (does_val (x_assign rfl (rfl)) rfl)) ?_
                                exact Steps.nil
                              clear hS
                              intro at2 w3 hS hI hp
                              have hBw3_w := hI
                              have hv6 : sl _ 6 = .bool false := hp 0 (by decide)
                              have hBw3_w3 := Below.refl w3.heap.size w3
                              have hS := hS.cons hv6
                              clear hp hI hv6
                              refine hK1 _ _ ?_
                              clear hK1 K1
                              refine wp_seq_k (fun K4 hK4 => ?_)
                              refine reg_seq_tail 3 (N := 74) (bs := [(6, .bool false), (0, .slice A0 l0.length c0), (1, .int .i64 a1), (2, .int .i64 a2)]) (I := fun x => Below w.heap.size w x ∧ Below w3.heap.size w3 x) (ps := [IsV (.slice A0 l0.length c0), IsR (Kd.int .u8) 5 w3.heap.size l0, IsR (Kd.int .u8) 5 w3.heap.size [99]]) (by kernel_rfl) ?_ ?_ rfl hS ⟨hBw3_w, hBw3_w3⟩ ?_ ?_
                              · exact fun x y hI hb => ⟨below_step hI.1 hb, below_step hI.2 hb⟩
                              · exact AllStay.cons (Stays.v _) (AllStay.cons (Stays.r _ _ _ _) (AllStay.cons (Stays.r _ _ _ _) (AllStay.nil)))
                              · refine Steps.cons (fun a w hS hI hp => ok_on rfl (does_val (x_move rfl (hS.get 1 rfl)) rfl)) ?_
                                refine Steps.cons (fun a w hS hI hp => ok_on rfl (does_copy w3.heap.size _ (.tmp 12) 27 5 1 rfl (by kernel_rfl) (by kernel_rfl) (by decide) l0 _ _ (rfl) ((hp.get 0 (by rfl) rfl rfl)) ((Kd.C_below HR0 hI.1)) (hI.2).size c1)) ?_
                                refine Steps.cons (fun a w hS hI hp => ok_on rfl (does_lit w3.heap.size 27 5 1 _ [(0, .int .u8 99)] [99] rfl (by kernel_rfl) (by rw [Array.toList_map]; exact (show [(0, a.eval (.const (.int .u8 99)))] = _ from (li_cons (rfl) rfl))) (by kernel_rfl) rfl (hI.2).size (Nat.le_of_ble_eq_true rfl))) ?_
                                exact Steps.nil
                              clear hS
                              intro at5 w6 hS hI hp
                              have hBw6_w := hI.1
                              have hBw6_w3 := hI.2
                              obtain ⟨A7, C7, hv13, hl7, hc7⟩ := Kd.R_reads (show Kd.R (Kd.int .u8) 5 w6 w3.heap.size (fun _ => True) (sl _ 13) l0 from hp 1 (by decide))
                              have ho7 : Kd.R (Kd.int .u8) 5 w6 w3.heap.size (fun _ => True) (.slice A7 l0.length C7) l0 := hv13 ▸ (hp 1 (by decide))
                              obtain ⟨A8, C8, hv14, hl8, hc8⟩ := Kd.R_reads (show Kd.R (Kd.int .u8) 5 w6 w3.heap.size (fun _ => True) (sl _ 14) [99] from hp 2 (by decide))
                              have ho8 : Kd.R (Kd.int .u8) 5 w6 w3.heap.size (fun _ => True) (.slice A8 [99].length C8) [99] := hv14 ▸ (hp 2 (by decide))
                              have hBw6_w6 := Below.refl w6.heap.size w6
                              have hS := hS.cons hv13
                              have hS := hS.cons hv14
                              clear hp hI hv13 hv14
                              show wpList _ _ _ [_, _, _, _, _] _ _
                              refine list_step rfl (does_more (W := w3) (.tmp 13) (.tmp 14) 27 5 1 rfl (by kernel_rfl) (by kernel_rfl) (by decide) _ l0 [99] _ _ (hS.get 1 rfl) (hS.get 0 rfl) (Kd.R_below ho7 hBw6_w6) (Kd.C_below hc8 hBw6_w6) hBw6_w3 c2) ?_
                              rintro vw9 w9 ⟨hb, hr⟩
                              have hBw9_w := below_step hBw3_w hb
                              have hBw9_w3 := hb
                              replace hS := ((((hS.nil).cons (hS.get 5 rfl)).cons (hS.get 4 rfl)).cons (hS.get 3 rfl)).cons (hS.get 2 rfl)
                              have hBw9_w9 := Below.refl w9.heap.size w9
                              obtain ⟨A10, C10, rfl, hl10, hc10⟩ := Kd.R_reads hr
                              have hr10 := hr
                              clear hr
                              replace hS := hS.put (v := .slice A10 ((l0 ++ [99] : List Int).length) C10) (d := 15) (by decide) (by rfl)
                              refine list_step rfl (R := fun v w' => Below _ _ w' ∧ (IsV (.slice A0 l0.length c0)) v w') (does_val (x_move rfl (hS.get 2 rfl)) rfl) ?_
                              rintro vw11 w11 ⟨hb, he⟩
                              have hBw11_w := below_step hBw9_w hb
                              have hBw11_w3 := below_step hBw9_w3 hb
                              have hBw11_w9 := below_step hBw9_w9 hb
                              have hBw11_w11 := Below.refl w11.heap.size w11
                              obtain rfl : vw11 = .slice A0 l0.length c0 := he
                              replace hS := hS.put (v := .slice A0 l0.length c0) (d := 16) (by decide) (by rfl)
                              refine list_step rfl (R := fun v w' => Below _ _ w' ∧ (IsV (.int .i64 (l0.length : Int))) v w') (does_val (x_len (e := 5) rfl (by kernel_rfl) (hS.get 0 rfl)) rfl) ?_
                              rintro vw12 w12 ⟨hb, he⟩
                              have hBw12_w := below_step hBw11_w hb
                              have hBw12_w3 := below_step hBw11_w3 hb
                              have hBw12_w9 := below_step hBw11_w9 hb
                              have hBw12_w11 := below_step hBw11_w11 hb
                              have hBw12_w12 := Below.refl w12.heap.size w12
                              obtain rfl : vw12 = .int .i64 (l0.length : Int) := he
                              replace hS := hS.put (v := .int .i64 (l0.length : Int)) (d := 17) (by decide) (by rfl)
                              refine list_step rfl (R := fun v w' => Below _ _ w' ∧ (IsV (.slice A10 (((l0 ++ [99] : List Int).take ((l0.length : Int) : Int).toNat).length) C10)) v w') (does_val (x_cuthi rfl (e := 5) (xs := (l0 ++ [99] : List Int)) (by kernel_rfl) (by kernel_rfl) (hS.get 2 rfl) (hS.get 0 rfl) c3 c4 hl10) rfl) ?_
                              rintro vw13 w13 ⟨hb, he⟩
                              have hBw13_w := below_step hBw12_w hb
                              have hBw13_w3 := below_step hBw12_w3 hb
                              have hBw13_w9 := below_step hBw12_w9 hb
                              have hBw13_w12 := below_step hBw12_w12 hb
                              have hBw13_w13 := Below.refl w13.heap.size w13
                              obtain rfl : vw13 = .slice A10 (((l0 ++ [99] : List Int).take ((l0.length : Int) : Int).toNat).length) C10 := he
                              replace hS := hS.put (v := .slice A10 (((l0 ++ [99] : List Int).take ((l0.length : Int) : Int).toNat).length) C10) (d := 18) (by decide) (by rfl)
                              refine list_step rfl (R := fun v w' => Below _ _ w' ∧ (IsV (.slice A10 (((l0 ++ [99] : List Int).take ((l0.length : Int) : Int).toNat).length) C10)) v w') (does_val (x_assign rfl (hS.get 0 rfl)) rfl) ?_
                              rintro vw14 w14 ⟨hb, he⟩
                              have hBw14_w := below_step hBw13_w hb
                              have hBw14_w3 := below_step hBw13_w3 hb
                              have hBw14_w9 := below_step hBw13_w9 hb
                              have hBw14_w13 := below_step hBw13_w13 hb
                              have hBw14_w14 := Below.refl w14.heap.size w14
                              obtain rfl : vw14 = .slice A10 (((l0 ++ [99] : List Int).take ((l0.length : Int) : Int).toNat).length) C10 := he
                              replace hS := hS.put (v := .slice A10 (((l0 ++ [99] : List Int).take ((l0.length : Int) : Int).toNat).length) C10) (d := 7) (by decide) (by rfl)
                              refine wpList_nil ?_
                              refine hK4 _ _ ?_
                              clear hK4 K4
                              refine wp_seq_k (fun K15 hK15 => ?_)
                              refine reg_seq (N := 74) (bs := [(7, .slice A10 (((l0 ++ [99] : List Int).take ((l0.length : Int) : Int).toNat).length) C10), (18, .slice A10 (((l0 ++ [99] : List Int).take ((l0.length : Int) : Int).toNat).length) C10), (17, .int .i64 (l0.length : Int)), (16, .slice A0 l0.length c0), (15, .slice A10 ((l0 ++ [99] : List Int).length) C10), (6, .bool false), (0, .slice A0 l0.length c0), (1, .int .i64 a1), (2, .int .i64 a2)]) (I := fun x => Below w.heap.size w x ∧ Below w3.heap.size w3 x ∧ Below w9.heap.size w9 x ∧ Below w14.heap.size w14 x) (ps := [IsV (.slice A10 (((l0 ++ [99] : List Int).take ((l0.length : Int) : Int).toNat).length) C10), IsV (.int .i64 a2), IsV (.tuple #[.int .i64 t16_1, .bool t16_2]), IsV (.tuple #[.int .i64 t16_1, .bool t16_2]), IsV (.int .i64 t16_1), IsV (.bool t16_2), IsV (.int .i64 t16_1), IsV (.bool t16_2)]) (by kernel_rfl) ?_ ?_ rfl hS ⟨hBw14_w, hBw14_w3, hBw14_w9, hBw14_w14⟩ ?_ ?_
                              · exact fun x y hI hb => ⟨below_step hI.1 hb, below_step hI.2.1 hb, below_step hI.2.2.1 hb, below_step hI.2.2.2 hb⟩
                              · exact AllStay.cons (Stays.v _) (AllStay.cons (Stays.v _) (AllStay.cons (Stays.v _) (AllStay.cons (Stays.v _) (AllStay.cons (Stays.v _) (AllStay.cons (Stays.v _) (AllStay.cons (Stays.v _) (AllStay.cons (Stays.v _) (AllStay.nil))))))))
                              · refine Steps.cons (fun a w hS hI hp => ok_on rfl (does_val (x_move rfl (hS.get 0 rfl)) rfl)) ?_
                                refine Steps.cons (fun a w hS hI hp => ok_on rfl (does_val (x_move rfl (hS.get 8 rfl)) rfl)) ?_
                                refine Steps.cons (fun a w hS hI hp => ok_on rfl (does_call (by kernel_rfl) (ar2 ((hp.get 0 (by rfl) rfl rfl)) ((hp.get 1 (by rfl) rfl rfl))) ((stamp_Get.calls k _ _ ((l0 ++ [99] : List Int).take ((l0.length : Int) : Int).toNat) a2 t16_1 t16_2 _ (Kd.C_take (m := ((l0.length : Int) : Int).toNat) (Kd.C_below hc10 hI.2.2.1) (by have := c4; omega)) (Nat.le_trans (List.length_take_le' _ _) hl10) At16).mono fun _ _ h => ⟨_, h.1, h.2.below, rfl⟩))) ?_
                                refine Steps.cons (fun a w hS hI hp => ok_on rfl (does_val (x_move rfl ((hp.get 2 (by rfl) rfl rfl))) rfl)) ?_
                                refine Steps.cons (fun a w hS hI hp => ok_on rfl (does_val (x_extract rfl ((hp.get 3 (by rfl) rfl rfl)) rfl) rfl)) ?_
                                refine Steps.cons (fun a w hS hI hp => ok_on rfl (does_val (x_extract rfl ((hp.get 3 (by rfl) rfl rfl)) rfl) rfl)) ?_
                                refine Steps.cons (fun a w hS hI hp => ok_on rfl (does_val (x_assign rfl ((hp.get 4 (by rfl) rfl rfl))) rfl)) ?_
                                refine Steps.cons (fun a w hS hI hp => ok_on rfl (does_val (x_assign rfl ((hp.get 5 (by rfl) rfl rfl))) rfl)) ?_
                                exact Steps.nil
                              clear hS
                              intro at17 w18 hS hI hp
                              have hBw18_w := hI.1
                              have hBw18_w3 := hI.2.1
                              have hBw18_w9 := hI.2.2.1
                              have hBw18_w14 := hI.2.2.2
                              replace hS := (((((hS.nil).cons (hS.get 8 rfl)).cons (hS.get 7 rfl)).cons (hS.get 6 rfl)).cons (hS.get 5 rfl)).cons (hS.get 0 rfl)
                              have hv8 : sl _ 8 = .int .i64 t16_1 := hp 6 (by decide)
                              have hv9 : sl _ 9 = .bool t16_2 := hp 7 (by decide)
                              have hBw18_w18 := Below.refl w18.heap.size w18
                              have hS := hS.cons hv8
                              have hS := hS.cons hv9
                              clear hp hI hv8 hv9
                              refine hK15 _ _ ?_
                              clear hK15 K15
                              refine wp_seq_k (fun K19 hK19 => ?_)
                              refine reg_seq (N := 74) (bs := [(9, .bool t16_2), (8, .int .i64 t16_1), (7, .slice A10 (((l0 ++ [99] : List Int).take ((l0.length : Int) : Int).toNat).length) C10), (6, .bool false), (0, .slice A0 l0.length c0), (1, .int .i64 a1), (2, .int .i64 a2)]) (I := fun x => Below w.heap.size w x ∧ Below w9.heap.size w9 x ∧ Below w18.heap.size w18 x) (ps := [IsV (.slice A0 l0.length c0), IsV (.int .i64 a2), IsV (.tuple #[.int .i64 t20_1, .bool t20_2]), IsV (.tuple #[.int .i64 t20_1, .bool t20_2]), IsV (.int .i64 t20_1), IsV (.bool t20_2), IsV (.int .i64 t20_1), IsV (.bool t20_2)]) (by kernel_rfl) ?_ ?_ rfl hS ⟨hBw18_w, hBw18_w9, hBw18_w18⟩ ?_ ?_
                              · exact fun x y hI hb => ⟨below_step hI.1 hb, below_step hI.2.1 hb, below_step hI.2.2 hb⟩
                              · exact AllStay.cons (Stays.v _) (AllStay.cons (Stays.v _) (AllStay.cons (Stays.v _) (AllStay.cons (Stays.v _) (AllStay.cons (Stays.v _) (AllStay.cons (Stays.v _) (AllStay.cons (Stays.v _) (AllStay.cons (Stays.v _) (AllStay.nil))))))))
                              · refine Steps.cons (fun a w hS hI hp => ok_on rfl (does_val (x_move rfl (hS.get 4 rfl)) rfl)) ?_
                                refine Steps.cons (fun a w hS hI hp => ok_on rfl (does_val (x_move rfl (hS.get 6 rfl)) rfl)) ?_
                                refine Steps.cons (fun a w hS hI hp => ok_on rfl (does_call (by kernel_rfl) (ar2 ((hp.get 0 (by rfl) rfl rfl)) ((hp.get 1 (by rfl) rfl rfl))) ((carillonref02_Get.calls k _ _ l0 a2 t20_1 t20_2 _ (Kd.C_below HR0 hI.1) HC0 At20).mono fun _ _ h => ⟨_, h.1, h.2.below, rfl⟩))) ?_
                                refine Steps.cons (fun a w hS hI hp => ok_on rfl (does_val (x_move rfl ((hp.get 2 (by rfl) rfl rfl))) rfl)) ?_
                                refine Steps.cons (fun a w hS hI hp => ok_on rfl (does_val (x_extract rfl ((hp.get 3 (by rfl) rfl rfl)) rfl) rfl)) ?_
                                refine Steps.cons (fun a w hS hI hp => ok_on rfl (does_val (x_extract rfl ((hp.get 3 (by rfl) rfl rfl)) rfl) rfl)) ?_
                                refine Steps.cons (fun a w hS hI hp => ok_on rfl (does_val (x_assign rfl ((hp.get 4 (by rfl) rfl rfl))) rfl)) ?_
                                refine Steps.cons (fun a w hS hI hp => ok_on rfl (does_val (x_assign rfl ((hp.get 5 (by rfl) rfl rfl))) rfl)) ?_
                                exact Steps.nil
                              clear hS
                              intro at21 w22 hS hI hp
                              have hBw22_w := hI.1
                              have hBw22_w9 := hI.2.1
                              have hBw22_w18 := hI.2.2
                              replace hS := ((((((hS.nil).cons (hS.get 5 rfl)).cons (hS.get 4 rfl)).cons (hS.get 3 rfl)).cons (hS.get 2 rfl)).cons (hS.get 1 rfl)).cons (hS.get 0 rfl)
                              have hv10 : sl _ 10 = .int .i64 t20_1 := hp 6 (by decide)
                              have hv11 : sl _ 11 = .bool t20_2 := hp 7 (by decide)
                              have hBw22_w22 := Below.refl w22.heap.size w22
                              have hS := hS.cons hv10
                              have hS := hS.cons hv11
                              clear hp hI hv10 hv11
                              refine hK19 _ _ ?_
                              clear hK19 K19
                              refine wp_seq_k (fun K23 hK23 => ?_)
                              replace hS := (((((((hS.nil).cons (hS.get 7 rfl)).cons (hS.get 6 rfl)).cons (hS.get 4 rfl)).cons (hS.get 3 rfl)).cons (hS.get 2 rfl)).cons (hS.get 1 rfl)).cons (hS.get 0 rfl)
                              refine reg_any (N := 74) (bs := [(11, .bool t20_2), (10, .int .i64 t20_1), (9, .bool t16_2), (8, .int .i64 t16_1), (7, .slice A10 (((l0 ++ [99] : List Int).take ((l0.length : Int) : Int).toNat).length) C10), (0, .slice A0 l0.length c0), (1, .int .i64 a1)]) (I := fun x => Below w.heap.size w x ∧ Below w9.heap.size w9 x ∧ Below w22.heap.size w22 x) (ps := [IsV (.slice A10 (((l0 ++ [99] : List Int).take ((l0.length : Int) : Int).toNat).length) C10), IsV (.int .i64 a1), IsR (Kd.int .u8) 5 w22.heap.size t24, IsV (.string (strOfNums t24)), IsV (.slice A0 l0.length c0), IsV (.string (strOfNums l0)), IsV (.int .i64 a1), IsR (Kd.int .u8) 5 w22.heap.size t25, IsV (.string (strOfNums t25)), IsV (.string ((strOfNums l0) ++ (strOfNums t25))), IsV (.bool ((strOfNums t24).toList == ((strOfNums l0) ++ (strOfNums t25)).toList)), IsV (.bool ((strOfNums t24).toList == ((strOfNums l0) ++ (strOfNums t25)).toList)), IsV (.int .i64 a1), IsV (.bool t26), IsV (.int .i64 a1), IsV (.bool t27), IsV (.bool (t26 == t27)), IsV (.bool (t26 == t27)), IsV (.bool (t26 == t27)), IsV (.int .i64 t16_1), IsV (.int .i64 t20_1), IsV (.bool (decide (t16_1 = t20_1))), IsV (.bool (decide (t16_1 = t20_1))), IsV (.bool (decide (t16_1 = t20_1))), IsV (.bool t16_2), IsV (.bool t20_2), IsV (.bool (t16_2 == t20_2)), IsV (.bool (t16_2 == t20_2)), IsV (.bool (t16_2 == t20_2)), IsV (.slice A10 (((l0 ++ [99] : List Int).take ((l0.length : Int) : Int).toNat).length) C10), IsV (.slice A0 l0.length c0), IsV (.int .i64 (l0.length : Int)), IsV (.int .i64 (wrap64 ((l0.length : Int) + 1))), IsV (.slice A10 (((l0 ++ [99] : List Int).take (wrap64 ((l0.length : Int) + 1) : Int).toNat).length) C10), IsV (.slice A0 l0.length c0), IsV (.int .i64 (l0.length : Int)), IsA (.int .u8 (rd (l0 ++ [99] : List Int) (l0.length : Int))), IsV (.int .u8 (rd (l0 ++ [99] : List Int) (l0.length : Int))), IsV (.bool (decide ((rd (l0 ++ [99] : List Int) (l0.length : Int)) = 99))), IsV (.bool (decide ((rd (l0 ++ [99] : List Int) (l0.length : Int)) = 99))), IsV (.bool (decide ((rd (l0 ++ [99] : List Int) (l0.length : Int)) = 99))), IsV (.bool t28), IsV (.bool t28), IsV (.bool t28)]) (by kernel_rfl) (by kernel_rfl) ?_ ?_ rfl hS ⟨hBw22_w, hBw22_w9, hBw22_w22⟩ ?_ ?_
                              · exact fun x y hI hb => ⟨below_step hI.1 hb, below_step hI.2.1 hb, below_step hI.2.2 hb⟩
                              · exact AllStay.cons (Stays.v _) (AllStay.cons (Stays.v _) (AllStay.cons (Stays.r _ _ _ _) (AllStay.cons (Stays.v _) (AllStay.cons (Stays.v _) (AllStay.cons (Stays.v _) (AllStay.cons (Stays.v _) (AllStay.cons (Stays.r _ _ _ _) (AllStay.cons (Stays.v _) (AllStay.cons (Stays.v _) (AllStay.cons (Stays.v _) (AllStay.cons (Stays.v _) (AllStay.cons (Stays.v _) (AllStay.cons (Stays.v _) (AllStay.cons (Stays.v _) (AllStay.cons (Stays.v _) (AllStay.cons (Stays.v _) (AllStay.cons (Stays.v _) (AllStay.cons (Stays.v _) (AllStay.cons (Stays.v _) (AllStay.cons (Stays.v _) (AllStay.cons (Stays.v _) (AllStay.cons (Stays.v _) (AllStay.cons (Stays.v _) (AllStay.cons (Stays.v _) (AllStay.cons (Stays.v _) (AllStay.cons (Stays.v _) (AllStay.cons (Stays.v _) (AllStay.cons (Stays.v _) (AllStay.cons (Stays.v _) (AllStay.cons (Stays.v _) (AllStay.cons (Stays.v _) (AllStay.cons (Stays.v _) (AllStay.cons (Stays.v _) (AllStay.cons (Stays.v _) (AllStay.cons (Stays.v _) (AllStay.cons (Stays.a _) (AllStay.cons (Stays.v _) (AllStay.cons (Stays.v _) (AllStay.cons (Stays.v _) (AllStay.cons (Stays.v _) (AllStay.cons (Stays.v _) (AllStay.cons (Stays.v _) (AllStay.cons (Stays.v _) (AllStay.nil))))))))))))))))))))))))))))))))))))))))))))
                              · refine Steps.cons (fun a w hS hI hp => ok_on rfl (does_val (x_move rfl (hS.get 4 rfl)) rfl)) ?_
                                refine Steps.cons (fun a w hS hI hp => ok_on rfl (does_val (x_move rfl (hS.get 6 rfl)) rfl)) ?_
                                refine Steps.cons (fun a w hS hI hp => ok_on rfl (does_call (by kernel_rfl) (ar2 ((hp.get 0 (by rfl) rfl rfl)) ((hp.get 1 (by rfl) rfl rfl))) ((stamp_Put.calls _ _ ((l0 ++ [99] : List Int).take ((l0.length : Int) : Int).toNat) a1 t24 _ (Kd.C_take (m := ((l0.length : Int) : Int).toNat) (Kd.C_below hc10 hI.2.1) (by have := c4; omega)) (Nat.le_trans (List.length_take_le' _ _) hl10) At24).mono fun _ _ h => h.elim fun v0 h => ⟨v0, h.1, h.2.2, Kd.R_lower h.2.1 hI.2.2.size⟩))) ?_
                                refine Steps.cons (fun a w hS hI hp => ok_on rfl ((IsC.of_r ((hp.get 2 (by rfl) rfl rfl))).elim fun A_ h_ => h_.elim fun c_ h_ => h_.elim fun hv_ h_ => h_.elim fun hl_ hc_ => does_val (x_conv rfl hv_ (Kd.C_string (by kernel_rfl) (e := 5) (by kernel_rfl) (by kernel_rfl) hc_)) rfl)) ?_
                                refine Steps.cons (fun a w hS hI hp => ok_on rfl (does_val (x_move rfl (hS.get 5 rfl)) rfl)) ?_
                                refine Steps.cons (fun a w hS hI hp => ok_on rfl (does_val (x_conv rfl ((hp.get 4 (by rfl) rfl rfl)) (Kd.C_string (by kernel_rfl) (e := 5) (by kernel_rfl) (by kernel_rfl) (Kd.C_below HR0 hI.1))) rfl)) ?_
                                refine Steps.cons (fun a w hS hI hp => ok_on rfl (does_val (x_move rfl (hS.get 6 rfl)) rfl)) ?_
                                refine Steps.cons (fun a w hS hI hp => ok_on rfl (does_call (by kernel_rfl) (ar1 ((hp.get 6 (by rfl) rfl rfl))) ((carillonref02_Put.calls k a1 t25 _  At25).mono fun _ _ h => h.elim fun v0 h => ⟨v0, h.1, h.2.2, Kd.R_lower h.2.1 hI.2.2.size⟩))) ?_
                                refine Steps.cons (fun a w hS hI hp => ok_on rfl ((IsC.of_r ((hp.get 7 (by rfl) rfl rfl))).elim fun A_ h_ => h_.elim fun c_ h_ => h_.elim fun hv_ h_ => h_.elim fun hl_ hc_ => does_val (x_conv rfl hv_ (Kd.C_string (by kernel_rfl) (e := 5) (by kernel_rfl) (by kernel_rfl) hc_)) rfl)) ?_
                                refine Steps.cons (fun a w hS hI hp => ok_on rfl (does_val (x_bin rfl ((hp.get 5 (by rfl) rfl rfl)) ((hp.get 8 (by rfl) rfl rfl)) (b_adds _ _ _ _ _ c5)) rfl)) ?_
                                refine Steps.cons (fun a w hS hI hp => ok_on rfl (does_val (x_bin rfl ((hp.get 3 (by rfl) rfl rfl)) ((hp.get 9 (by rfl) rfl rfl)) (b_eqs _ _ _ _ _)) rfl)) ?_
                                refine Steps.cons (fun a w hS hI hp => ok_on rfl (does_val (x_move rfl ((hp.get 10 (by rfl) rfl rfl))) rfl)) ?_
                                refine Steps.cons (fun a w hS hI hp => ok_if (d := 42) rfl rfl (by rw [hS.size]; decide) (((hp.get 11 (by rfl) rfl rfl)).trans (bT c6)) (does_val (x_move rfl (hS.get 6 rfl)) rfl)) ?_
                                refine Steps.cons (fun a w hS hI hp => ok_if (d := 42) rfl rfl (by rw [hS.size]; decide) (((hp.get 11 (by rfl) rfl rfl)).trans (bT c6)) (does_call (by kernel_rfl) (ar1 ((hp.get 12 (by rfl) rfl rfl))) ((stamp_May.calls a1 t26 _  At26).mono fun _ _ h => ⟨_, h.1, h.2.below, rfl⟩))) ?_
                                refine Steps.cons (fun a w hS hI hp => ok_if (d := 42) rfl rfl (by rw [hS.size]; decide) (((hp.get 11 (by rfl) rfl rfl)).trans (bT c6)) (does_val (x_move rfl (hS.get 6 rfl)) rfl)) ?_
                                refine Steps.cons (fun a w hS hI hp => ok_if (d := 42) rfl rfl (by rw [hS.size]; decide) (((hp.get 11 (by rfl) rfl rfl)).trans (bT c6)) (does_call (by kernel_rfl) (ar1 ((hp.get 14 (by rfl) rfl rfl))) ((carillonref02_May.calls a1 t27 _  At27).mono fun _ _ h => ⟨_, h.1, h.2.below, rfl⟩))) ?_
                                refine Steps.cons (fun a w hS hI hp => ok_if (d := 42) rfl rfl (by rw [hS.size]; decide) (((hp.get 11 (by rfl) rfl rfl)).trans (bT c6)) (does_val (x_bin rfl ((hp.get 13 (by rfl) rfl rfl)) ((hp.get 15 (by rfl) rfl rfl)) (b_eqb _ _ _ _ _ (by kernel_rfl))) rfl)) ?_
                                refine Steps.cons (fun a w hS hI hp => ok_on rfl (does_val (x_pickT rfl (((hp.get 11 (by rfl) rfl rfl)).trans (bT c6)) ((hp.get 16 (by rfl) rfl rfl))) rfl)) ?_
                                refine Steps.cons (fun a w hS hI hp => ok_on rfl (does_val (x_move rfl ((hp.get 17 (by rfl) rfl rfl))) rfl)) ?_
                                refine Steps.cons (fun a w hS hI hp => ok_if (d := 49) rfl rfl (by rw [hS.size]; decide) (((hp.get 18 (by rfl) rfl rfl)).trans (bT c7)) (does_val (x_move rfl (hS.get 3 rfl)) rfl)) ?_
                                refine Steps.cons (fun a w hS hI hp => ok_if (d := 49) rfl rfl (by rw [hS.size]; decide) (((hp.get 18 (by rfl) rfl rfl)).trans (bT c7)) (does_val (x_move rfl (hS.get 1 rfl)) rfl)) ?_
                                refine Steps.cons (fun a w hS hI hp => ok_if (d := 49) rfl rfl (by rw [hS.size]; decide) (((hp.get 18 (by rfl) rfl rfl)).trans (bT c7)) (does_val (x_bin rfl ((hp.get 19 (by rfl) rfl rfl)) ((hp.get 20 (by rfl) rfl rfl)) (b_eql _ _ _ _ _ _)) rfl)) ?_
                                refine Steps.cons (fun a w hS hI hp => ok_on rfl (does_val (x_pickT rfl (((hp.get 18 (by rfl) rfl rfl)).trans (bT c7)) ((hp.get 21 (by rfl) rfl rfl))) rfl)) ?_
                                refine Steps.cons (fun a w hS hI hp => ok_on rfl (does_val (x_move rfl ((hp.get 22 (by rfl) rfl rfl))) rfl)) ?_
                                refine Steps.cons (fun a w hS hI hp => ok_if (d := 54) rfl rfl (by rw [hS.size]; decide) (((hp.get 23 (by rfl) rfl rfl)).trans (bT (decide_eq_true c8))) (does_val (x_move rfl (hS.get 2 rfl)) rfl)) ?_
                                refine Steps.cons (fun a w hS hI hp => ok_if (d := 54) rfl rfl (by rw [hS.size]; decide) (((hp.get 23 (by rfl) rfl rfl)).trans (bT (decide_eq_true c8))) (does_val (x_move rfl (hS.get 0 rfl)) rfl)) ?_
                                refine Steps.cons (fun a w hS hI hp => ok_if (d := 54) rfl rfl (by rw [hS.size]; decide) (((hp.get 23 (by rfl) rfl rfl)).trans (bT (decide_eq_true c8))) (does_val (x_bin rfl ((hp.get 24 (by rfl) rfl rfl)) ((hp.get 25 (by rfl) rfl rfl)) (b_eqb _ _ _ _ _ (by kernel_rfl))) rfl)) ?_
                                refine Steps.cons (fun a w hS hI hp => ok_on rfl (does_val (x_pickT rfl (((hp.get 23 (by rfl) rfl rfl)).trans (bT (decide_eq_true c8))) ((hp.get 26 (by rfl) rfl rfl))) rfl)) ?_
                                refine Steps.cons (fun a w hS hI hp => ok_on rfl (does_val (x_move rfl ((hp.get 27 (by rfl) rfl rfl))) rfl)) ?_
                                refine Steps.cons (fun a w hS hI hp => ok_if (d := 59) rfl rfl (by rw [hS.size]; decide) (((hp.get 28 (by rfl) rfl rfl)).trans (bT c9)) (does_val (x_move rfl (hS.get 4 rfl)) rfl)) ?_
                                refine Steps.cons (fun a w hS hI hp => ok_if (d := 59) rfl rfl (by rw [hS.size]; decide) (((hp.get 28 (by rfl) rfl rfl)).trans (bT c9)) (does_val (x_move rfl (hS.get 5 rfl)) rfl)) ?_
                                refine Steps.cons (fun a w hS hI hp => ok_if (d := 59) rfl rfl (by rw [hS.size]; decide) (((hp.get 28 (by rfl) rfl rfl)).trans (bT c9)) (does_val (x_len (e := 5) rfl (by kernel_rfl) ((hp.get 30 (by rfl) rfl rfl))) rfl)) ?_
                                refine Steps.cons (fun a w hS hI hp => ok_if (d := 59) rfl rfl (by rw [hS.size]; decide) (((hp.get 28 (by rfl) rfl rfl)).trans (bT c9)) (does_val (x_bin rfl ((hp.get 31 (by rfl) rfl rfl)) (rfl) (b_add _ _ _ _ _)) rfl)) ?_
                                refine Steps.cons (fun a w hS hI hp => ok_if (d := 59) rfl rfl (by rw [hS.size]; decide) (((hp.get 28 (by rfl) rfl rfl)).trans (bT c9)) (does_val (x_cuthi rfl (e := 5) (xs := (l0 ++ [99] : List Int)) (by kernel_rfl) (by kernel_rfl) ((hp.get 29 (by rfl) rfl rfl)) ((hp.get 32 (by rfl) rfl rfl)) c10 c11 hl10) rfl)) ?_
                                refine Steps.cons (fun a w hS hI hp => ok_if (d := 59) rfl rfl (by rw [hS.size]; decide) (((hp.get 28 (by rfl) rfl rfl)).trans (bT c9)) (does_val (x_move rfl (hS.get 5 rfl)) rfl)) ?_
                                refine Steps.cons (fun a w hS hI hp => ok_if (d := 59) rfl rfl (by rw [hS.size]; decide) (((hp.get 28 (by rfl) rfl rfl)).trans (bT c9)) (does_val (x_len (e := 5) rfl (by kernel_rfl) ((hp.get 34 (by rfl) rfl rfl))) rfl)) ?_
                                refine Steps.cons (fun a w hS hI hp => ok_if (d := 59) rfl rfl (by rw [hS.size]; decide) (((hp.get 28 (by rfl) rfl rfl)).trans (bT c9)) (does_index (e := 5) (xs := (l0 ++ [99] : List Int)) rfl ((hp.get 33 (by rfl) rfl rfl)) ((hp.get 35 (by rfl) rfl rfl)) (by kernel_rfl) (by kernel_rfl) c3 c12 c13 ((Kd.C_below hc10 hI.2.1)))) ?_
                                refine Steps.cons (fun a w hS hI hp => ok_if (d := 59) rfl rfl (by rw [hS.size]; decide) (((hp.get 28 (by rfl) rfl rfl)).trans (bT c9)) (((hp.get 36 (by rfl) rfl rfl)).elim fun _ h_ => does_val (x_load1 (d := .int .u8) rfl h_.1 (by kernel_rfl) rfl h_.2.2) rfl)) ?_
                                refine Steps.cons (fun a w hS hI hp => ok_if (d := 59) rfl rfl (by rw [hS.size]; decide) (((hp.get 28 (by rfl) rfl rfl)).trans (bT c9)) (does_val (x_bin rfl ((hp.get 37 (by rfl) rfl rfl)) (rfl) (b_eql _ _ _ _ _ _)) rfl)) ?_
                                refine Steps.cons (fun a w hS hI hp => ok_on rfl (does_val (x_pickT rfl (((hp.get 28 (by rfl) rfl rfl)).trans (bT c9)) ((hp.get 38 (by rfl) rfl rfl))) rfl)) ?_
                                refine Steps.cons (fun a w hS hI hp => ok_on rfl (does_val (x_move rfl ((hp.get 39 (by rfl) rfl rfl))) rfl)) ?_
                                refine Steps.cons (fun a w hS hI hp => ok_if (d := 71) rfl rfl (by rw [hS.size]; decide) (((hp.get 40 (by rfl) rfl rfl)).trans (bT (decide_eq_true c14))) (does_call (by kernel_rfl) rfl ((carillonlaw02_awake.calls  t28 _  At28).mono fun _ _ h => ⟨_, h.1, h.2, rfl⟩))) ?_
                                refine Steps.cons (fun a w hS hI hp => ok_on rfl (does_val (x_pickT rfl (((hp.get 40 (by rfl) rfl rfl)).trans (bT (decide_eq_true c14))) ((hp.get 41 (by rfl) rfl rfl))) rfl)) ?_
                                refine Steps.cons (fun a w hS hI hp => ok_on rfl (does_val (x_assign rfl ((hp.get 42 (by rfl) rfl rfl))) rfl)) ?_
                                exact Steps.nil
                              clear hS
                              intro at29 w30 hS hI hp
                              have hBw30_w := hI.1
                              have hBw30_w9 := hI.2.1
                              have hBw30_w22 := hI.2.2
                              replace hS := hS.nil
                              have hv6 : sl _ 6 = .bool t28 := hp 43 (by decide)
                              have hBw30_w30 := Below.refl w30.heap.size w30
                              have hS := hS.cons hv6
                              clear hp hI hv6
                              refine hK23 _ _ ?_
                              clear hK23 K23
                              refine wp_ret ?_
                              (try simp only [Exit.then, Exit.inBlock])
                              exact bodyPost_ret (v := .bool true) (by rw [results_tmp rfl]; exact congrArg (Result.ok · _) ((hS.get 0 rfl).trans (congrArg Value.bool hret))) hS.nodef ⟨rfl, hBw30_w⟩
                            · rw [if_neg c14] at H
                              exact absurd H (by simp)
                          · rw [if_neg c13] at H
                            exact absurd H (by simp)
                        · rw [if_neg c12] at H
                          exact absurd H (by simp)
                      · rw [if_neg c11] at H
                        exact absurd H (by simp)
                    · rw [if_neg c10] at H
                      exact absurd H (by simp)
                  · rw [if_neg c9] at H
                    exact absurd H (by simp)
                · rw [if_neg c8] at H
                  exact absurd H (by simp)
              · rw [if_neg c7] at H
                exact absurd H (by simp)
            · rw [if_neg c6] at H
              exact absurd H (by simp)
          · rw [if_neg c5] at H
            exact absurd H (by simp)
        · rw [if_neg c4] at H
          exact absurd H (by simp)
      · rw [if_neg c3] at H
        exact absurd H (by simp)
    · rw [if_neg c2] at H
      exact absurd H (by simp)
  · rw [if_neg c1] at H
    exact absurd H (by simp)

/-- The one pure statement of carillonlaw02_StampBytes. -/
def carillonlaw02_StampBytes.Pure : Prop := ∀ (l0 : List Int) (a1 : Int) (a2 : Int), l0.length ≤ maxLen → l0.length * 1 ≤ 140737488351232 → (∀ x ∈ l0, (Lit.int .u8 x).wf = true) → (Lit.int .i64 a1).wf = true → (Lit.int .i64 a2).wf = true → ∃ k, carillonlaw02_StampBytes.f k l0 a1 a2 = some true
theorem carillonlaw02_StampBytes.walk (P : carillonlaw02_StampBytes.Pure) (a0 : Option Addr) (len0 cap0 : Nat) (z0 : List Int) (a1 : Int) (a2 : Int) (w : World) (w0 : (a0 = none ∧ len0 = 0 ∧ cap0 = 0 ∧ z0 = []) ∨ ∃ x, a0 = some x ∧ len0 ≤ cap0 ∧ cap0 ≤ maxLen ∧ z0.length = cap0 ∧ (∀ i, i < z0.length → w.cell? (x.add i) = some (.int .u8 (z0.getD i 0))) ∧ ∀ n ∈ z0, (Lit.int .u8 n).wf = true) (y0 : len0 * 1 ≤ 140737488351232) (w1 : (Lit.int .i64 a1).wf = true) (w2 : (Lit.int .i64 a2).wf = true) :
    Calls Try.prog 9 #[.slice a0 len0 cap0, .int .i64 a1, .int .i64 a2] w fun e w' => e = .returned (.bool true) ∧ Below w.heap.size w w' := by
  obtain ⟨l0, rfl, hr0, hm0, hw0, hc0⟩ := ReadsInt.ofRowC w0
  obtain ⟨k, h⟩ := P l0 a1 a2 hm0 y0 hw0 w1 w2
  refine (carillonlaw02_StampBytes.calls k _ _ l0 a1 a2 w (Kd.C_of_reads (d := (0 : Int)) (h1 := fun _ => rfl) hr0) hc0 h).mono ?_
  rintro e w' ⟨rfl, hd⟩
  exact ⟨rfl, hd⟩

/-! ### carillonlaw02_StampBack: function 10: by our own printer -/
def carillonlaw02_StampBack.f (k : Nat) (a0 : Int) (a1 : Int) : Option (Bool) := (carillonlaw00_Place.f a0 4000000000000001).bind fun t5 => ((carillonlaw00_Place.f a1 4000000000000001).bind fun t6 => ((stamp_Put.f [] t5).bind fun t10 => ((stamp_Put.f [1, 2] t6).bind fun t11 => ((stamp_Get.f k t10 0).bind fun t17 => ((stamp_Get.f k t11 2).bind fun t21 => (if t17.2 = true then (if t21.2 = true then (if t17.1 = t5 then (if t21.1 = t6 then (if (t10.length : Int) = 10 then (if 2 ≤ (t11.length : Int) then (if ((Op.bytesLess (strOfNums t10).toList (strOfNums ((t11.take ((t11.length : Int) : Int).toNat).drop (2 : Int).toNat)).toList) == (decide (t5 < t6))) = true then ((carillonlaw02_awake.f ).bind fun t25 => (some t25)) else (some false)) else (none)) else (some false)) else (some false)) else (some false)) else (some false)) else (some false)))))))
open Go.Proofs.Yteahnnhekfkabaa.E in
set_option maxHeartbeats 8000000 in
set_option maxRecDepth 100000 in
theorem carillonlaw02_StampBack.calls (k : Nat) (a0 : Int) (a1 : Int) (w : World) (h : carillonlaw02_StampBack.f k a0 a1 = some true) :
    Calls Try.prog 10 #[.int .i64 a0, .int .i64 a1] w fun e w' => e = .returned (.bool true) ∧ Below w.heap.size w w' := by
  have H := h
  clear h
  unfold carillonlaw02_StampBack.f at H
  obtain ⟨t5, At5, H⟩ := Option.bind_eq_some_iff.mp H
  obtain ⟨t6, At6, H⟩ := Option.bind_eq_some_iff.mp H
  obtain ⟨t10, At10, H⟩ := Option.bind_eq_some_iff.mp H
  obtain ⟨t11, At11, H⟩ := Option.bind_eq_some_iff.mp H
  obtain ⟨t17, At17, H⟩ := Option.bind_eq_some_iff.mp H
  obtain ⟨t17_1, t17_2⟩ := t17
  (try dsimp only at H)
  obtain ⟨t21, At21, H⟩ := Option.bind_eq_some_iff.mp H
  obtain ⟨t21_1, t21_2⟩ := t21
  (try dsimp only at H)
  by_cases c1 : t17_2 = true
  · rw [if_pos c1] at H
    by_cases c2 : t21_2 = true
    · rw [if_pos c2] at H
      by_cases c3 : t17_1 = t5
      · rw [if_pos c3] at H
        by_cases c4 : t21_1 = t6
        · rw [if_pos c4] at H
          by_cases c5 : (t10.length : Int) = 10
          · rw [if_pos c5] at H
            by_cases c6 : 2 ≤ (t11.length : Int)
            · rw [if_pos c6] at H
              by_cases c7 : ((Op.bytesLess (strOfNums t10).toList (strOfNums ((t11.take ((t11.length : Int) : Int).toNat).drop (2 : Int).toNat)).toList) == (decide (t5 < t6))) = true
              · rw [if_pos c7] at H
                obtain ⟨t25, At25, H⟩ := Option.bind_eq_some_iff.mp H
                have hret := Option.some.inj H
                clear H
                refine calls_of_wp (fn := Try.f10) (by kernel_rfl) rfl ?_
                have hS := St.enter #[.int .i64 a0, .int .i64 a1] 66 (by simp) [(0, .int .i64 a0), (1, .int .i64 a1)] (by simp)
                have HB0 := Below.refl w.heap.size w
                refine wp_seq_k (fun K1 hK1 => ?_)
                refine reg_seq (N := 66) (bs := [(0, .int .i64 a0), (1, .int .i64 a1)]) (I := fun x => Below w.heap.size w x) (ps := [IsV (.bool false)]) (by kernel_rfl) ?_ ?_ rfl hS HB0 ?_ ?_
                · exact fun x y hI hb => below_step hI hb
                · exact AllStay.cons (Stays.v _) (AllStay.nil)
                · refine Steps.cons (fun a w hS hI hp => ok_on rfl (does_val (x_assign rfl (rfl)) rfl)) ?_
                  exact Steps.nil
                clear hS
                intro at2 w3 hS hI hp
                have hBw3_w := hI
                have hv4 : sl _ 4 = .bool false := hp 0 (by decide)
                have hBw3_w3 := Below.refl w3.heap.size w3
                have hS := hS.cons hv4
                clear hp hI hv4
                refine hK1 _ _ ?_
                clear hK1 K1
                refine wp_seq_k (fun K4 hK4 => ?_)
                refine reg_seq (N := 66) (bs := [(4, .bool false), (0, .int .i64 a0), (1, .int .i64 a1)]) (I := fun x => Below w.heap.size w x ∧ Below w3.heap.size w3 x) (ps := [IsV (.int .i64 a0), IsV (.int .i64 t5), IsV (.int .i64 a1), IsV (.int .i64 t6), IsV (.int .i64 t5), IsV (.int .i64 t6)]) (by kernel_rfl) ?_ ?_ rfl hS ⟨hBw3_w, hBw3_w3⟩ ?_ ?_
                · exact fun x y hI hb => ⟨below_step hI.1 hb, below_step hI.2 hb⟩
                · exact AllStay.cons (Stays.v _) (AllStay.cons (Stays.v _) (AllStay.cons (Stays.v _) (AllStay.cons (Stays.v _) (AllStay.cons (Stays.v _) (AllStay.cons (Stays.v _) (AllStay.nil))))))
                · refine Steps.cons (fun a w hS hI hp => ok_on rfl (does_val (x_move rfl (hS.get 1 rfl)) rfl)) ?_
                  refine Steps.cons (fun a w hS hI hp => ok_on rfl (does_call (by kernel_rfl) (ar2 ((hp.get 0 (by rfl) rfl rfl)) (rfl)) ((carillonlaw00_Place.calls a0 4000000000000001 t5 _  At5).mono fun _ _ h => ⟨_, h.1, h.2.below, rfl⟩))) ?_
                  refine Steps.cons (fun a w hS hI hp => ok_on rfl (does_val (x_move rfl (hS.get 2 rfl)) rfl)) ?_
                  refine Steps.cons (fun a w hS hI hp => ok_on rfl (does_call (by kernel_rfl) (ar2 ((hp.get 2 (by rfl) rfl rfl)) (rfl)) ((carillonlaw00_Place.calls a1 4000000000000001 t6 _  At6).mono fun _ _ h => ⟨_, h.1, h.2.below, rfl⟩))) ?_
                  refine Steps.cons (fun a w hS hI hp => ok_on rfl (does_val (x_assign rfl ((hp.get 1 (by rfl) rfl rfl))) rfl)) ?_
                  refine Steps.cons (fun a w hS hI hp => ok_on rfl (does_val (x_assign rfl ((hp.get 3 (by rfl) rfl rfl))) rfl)) ?_
                  exact Steps.nil
                clear hS
                intro at7 w8 hS hI hp
                have hBw8_w := hI.1
                have hBw8_w3 := hI.2
                replace hS := (hS.nil).cons (hS.get 0 rfl)
                have hv5 : sl _ 5 = .int .i64 t5 := hp 4 (by decide)
                have hv6 : sl _ 6 = .int .i64 t6 := hp 5 (by decide)
                have hBw8_w8 := Below.refl w8.heap.size w8
                have hS := hS.cons hv5
                have hS := hS.cons hv6
                clear hp hI hv5 hv6
                refine hK4 _ _ ?_
                clear hK4 K4
                refine wp_seq_k (fun K9 hK9 => ?_)
                refine reg_seq (N := 66) (bs := [(6, .int .i64 t6), (5, .int .i64 t5), (4, .bool false)]) (I := fun x => Below w.heap.size w x ∧ Below w8.heap.size w8 x) (ps := [IsV (.int .i64 t5), IsR (Kd.int .u8) 5 w8.heap.size t10, IsR (Kd.int .u8) 5 w8.heap.size [1, 2], IsV (.int .i64 t6), IsR (Kd.int .u8) 5 w8.heap.size t11, IsR (Kd.int .u8) 5 w8.heap.size t10, IsR (Kd.int .u8) 5 w8.heap.size t11]) (by kernel_rfl) ?_ ?_ rfl hS ⟨hBw8_w, hBw8_w8⟩ ?_ ?_
                · exact fun x y hI hb => ⟨below_step hI.1 hb, below_step hI.2 hb⟩
                · exact AllStay.cons (Stays.v _) (AllStay.cons (Stays.r _ _ _ _) (AllStay.cons (Stays.r _ _ _ _) (AllStay.cons (Stays.v _) (AllStay.cons (Stays.r _ _ _ _) (AllStay.cons (Stays.r _ _ _ _) (AllStay.cons (Stays.r _ _ _ _) (AllStay.nil)))))))
                · refine Steps.cons (fun a w hS hI hp => ok_on rfl (does_val (x_move rfl (hS.get 1 rfl)) rfl)) ?_
                  refine Steps.cons (fun a w hS hI hp => ok_on rfl (does_call (by kernel_rfl) (ar2 (rfl) ((hp.get 0 (by rfl) rfl rfl))) ((stamp_Put.calls _ _ [] t5 t10 _ (Kd.C_nil _ _) (Nat.le_refl _) At10).mono fun _ _ h => h.elim fun v0 h => ⟨v0, h.1, h.2.2, Kd.R_lower h.2.1 hI.2.size⟩))) ?_
                  refine Steps.cons (fun a w hS hI hp => ok_on rfl (does_lit w8.heap.size 27 5 2 _ [(0, .int .u8 1), (1, .int .u8 2)] [1, 2] rfl (by kernel_rfl) (by rw [Array.toList_map]; exact (show [(0, a.eval (.const (.int .u8 1))), (1, a.eval (.const (.int .u8 2)))] = _ from (li_cons (rfl) (li_cons (rfl) rfl)))) (by kernel_rfl) rfl (hI.2).size (Nat.le_of_ble_eq_true rfl))) ?_
                  refine Steps.cons (fun a w hS hI hp => ok_on rfl (does_val (x_move rfl (hS.get 0 rfl)) rfl)) ?_
                  refine Steps.cons (fun a w hS hI hp => ok_on rfl ((IsC.of_r ((hp.get 2 (by rfl) rfl rfl))).elim fun A_ h_ => h_.elim fun c_ h_ => h_.elim fun hv_ h_ => h_.elim fun hl_ hc_ => does_call (by kernel_rfl) (ar2 (hv_) ((hp.get 3 (by rfl) rfl rfl))) ((stamp_Put.calls _ _ [1, 2] t6 t11 _ hc_ hl_ At11).mono fun _ _ h => h.elim fun v0 h => ⟨v0, h.1, h.2.2, Kd.R_lower h.2.1 hI.2.size⟩))) ?_
                  refine Steps.cons (fun a w hS hI hp => ok_on rfl (does_val (x_assign rfl rfl) ((hp.get 1 (by rfl) rfl rfl)))) ?_
                  refine Steps.cons (fun a w hS hI hp => ok_on rfl (does_val (x_assign rfl rfl) ((hp.get 4 (by rfl) rfl rfl)))) ?_
                  exact Steps.nil
                clear hS
                intro at12 w13 hS hI hp
                have hBw13_w := hI.1
                have hBw13_w8 := hI.2
                obtain ⟨A14, C14, hv7, hl14, hc14⟩ := Kd.R_reads (show Kd.R (Kd.int .u8) 5 w13 w8.heap.size (fun _ => True) (sl _ 7) t10 from hp 5 (by decide))
                have ho14 : Kd.R (Kd.int .u8) 5 w13 w8.heap.size (fun _ => True) (.slice A14 t10.length C14) t10 := hv7 ▸ (hp 5 (by decide))
                obtain ⟨A15, C15, hv8, hl15, hc15⟩ := Kd.R_reads (show Kd.R (Kd.int .u8) 5 w13 w8.heap.size (fun _ => True) (sl _ 8) t11 from hp 6 (by decide))
                have ho15 : Kd.R (Kd.int .u8) 5 w13 w8.heap.size (fun _ => True) (.slice A15 t11.length C15) t11 := hv8 ▸ (hp 6 (by decide))
                have hBw13_w13 := Below.refl w13.heap.size w13
                have hS := hS.cons hv7
                have hS := hS.cons hv8
                clear hp hI hv7 hv8
                refine hK9 _ _ ?_
                clear hK9 K9
                refine wp_seq_k (fun K16 hK16 => ?_)
                refine reg_seq (N := 66) (bs := [(8, .slice A15 t11.length C15), (7, .slice A14 t10.length C14), (6, .int .i64 t6), (5, .int .i64 t5), (4, .bool false)]) (I := fun x => Below w.heap.size w x ∧ Below w8.heap.size w8 x ∧ Below w13.heap.size w13 x) (ps := [IsV (.slice A14 t10.length C14), IsV (.tuple #[.int .i64 t17_1, .bool t17_2]), IsV (.tuple #[.int .i64 t17_1, .bool t17_2]), IsV (.int .i64 t17_1), IsV (.bool t17_2), IsV (.int .i64 t17_1), IsV (.bool t17_2)]) (by kernel_rfl) ?_ ?_ rfl hS ⟨hBw13_w, hBw13_w8, hBw13_w13⟩ ?_ ?_
                · exact fun x y hI hb => ⟨below_step hI.1 hb, below_step hI.2.1 hb, below_step hI.2.2 hb⟩
                · exact AllStay.cons (Stays.v _) (AllStay.cons (Stays.v _) (AllStay.cons (Stays.v _) (AllStay.cons (Stays.v _) (AllStay.cons (Stays.v _) (AllStay.cons (Stays.v _) (AllStay.cons (Stays.v _) (AllStay.nil)))))))
                · refine Steps.cons (fun a w hS hI hp => ok_on rfl (does_val (x_move rfl (hS.get 1 rfl)) rfl)) ?_
                  refine Steps.cons (fun a w hS hI hp => ok_on rfl (does_call (by kernel_rfl) (ar2 ((hp.get 0 (by rfl) rfl rfl)) (rfl)) ((stamp_Get.calls k _ _ t10 0 t17_1 t17_2 _ (Kd.C_below hc14 hI.2.2) hl14 At17).mono fun _ _ h => ⟨_, h.1, h.2.below, rfl⟩))) ?_
                  refine Steps.cons (fun a w hS hI hp => ok_on rfl (does_val (x_move rfl ((hp.get 1 (by rfl) rfl rfl))) rfl)) ?_
                  refine Steps.cons (fun a w hS hI hp => ok_on rfl (does_val (x_extract rfl ((hp.get 2 (by rfl) rfl rfl)) rfl) rfl)) ?_
                  refine Steps.cons (fun a w hS hI hp => ok_on rfl (does_val (x_extract rfl ((hp.get 2 (by rfl) rfl rfl)) rfl) rfl)) ?_
                  refine Steps.cons (fun a w hS hI hp => ok_on rfl (does_val (x_assign rfl ((hp.get 3 (by rfl) rfl rfl))) rfl)) ?_
                  refine Steps.cons (fun a w hS hI hp => ok_on rfl (does_val (x_assign rfl ((hp.get 4 (by rfl) rfl rfl))) rfl)) ?_
                  exact Steps.nil
                clear hS
                intro at18 w19 hS hI hp
                have hBw19_w := hI.1
                have hBw19_w8 := hI.2.1
                have hBw19_w13 := hI.2.2
                have hv9 : sl _ 9 = .int .i64 t17_1 := hp 5 (by decide)
                have hv10 : sl _ 10 = .bool t17_2 := hp 6 (by decide)
                have hBw19_w19 := Below.refl w19.heap.size w19
                have hS := hS.cons hv9
                have hS := hS.cons hv10
                clear hp hI hv9 hv10
                refine hK16 _ _ ?_
                clear hK16 K16
                refine wp_seq_k (fun K20 hK20 => ?_)
                refine reg_seq (N := 66) (bs := [(10, .bool t17_2), (9, .int .i64 t17_1), (8, .slice A15 t11.length C15), (7, .slice A14 t10.length C14), (6, .int .i64 t6), (5, .int .i64 t5), (4, .bool false)]) (I := fun x => Below w.heap.size w x ∧ Below w8.heap.size w8 x ∧ Below w13.heap.size w13 x ∧ Below w19.heap.size w19 x) (ps := [IsV (.slice A15 t11.length C15), IsV (.tuple #[.int .i64 t21_1, .bool t21_2]), IsV (.tuple #[.int .i64 t21_1, .bool t21_2]), IsV (.int .i64 t21_1), IsV (.bool t21_2), IsV (.int .i64 t21_1), IsV (.bool t21_2)]) (by kernel_rfl) ?_ ?_ rfl hS ⟨hBw19_w, hBw19_w8, hBw19_w13, hBw19_w19⟩ ?_ ?_
                · exact fun x y hI hb => ⟨below_step hI.1 hb, below_step hI.2.1 hb, below_step hI.2.2.1 hb, below_step hI.2.2.2 hb⟩
                · exact AllStay.cons (Stays.v _) (AllStay.cons (Stays.v _) (AllStay.cons (Stays.v _) (AllStay.cons (Stays.v _) (AllStay.cons (Stays.v _) (AllStay.cons (Stays.v _) (AllStay.cons (Stays.v _) (AllStay.nil)))))))
                · refine Steps.cons (fun a w hS hI hp => ok_on rfl (does_val (x_move rfl (hS.get 2 rfl)) rfl)) ?_
                  refine Steps.cons (fun a w hS hI hp => ok_on rfl (does_call (by kernel_rfl) (ar2 ((hp.get 0 (by rfl) rfl rfl)) (rfl)) ((stamp_Get.calls k _ _ t11 2 t21_1 t21_2 _ (Kd.C_below hc15 hI.2.2.1) hl15 At21).mono fun _ _ h => ⟨_, h.1, h.2.below, rfl⟩))) ?_
                  refine Steps.cons (fun a w hS hI hp => ok_on rfl (does_val (x_move rfl ((hp.get 1 (by rfl) rfl rfl))) rfl)) ?_
                  refine Steps.cons (fun a w hS hI hp => ok_on rfl (does_val (x_extract rfl ((hp.get 2 (by rfl) rfl rfl)) rfl) rfl)) ?_
                  refine Steps.cons (fun a w hS hI hp => ok_on rfl (does_val (x_extract rfl ((hp.get 2 (by rfl) rfl rfl)) rfl) rfl)) ?_
                  refine Steps.cons (fun a w hS hI hp => ok_on rfl (does_val (x_assign rfl ((hp.get 3 (by rfl) rfl rfl))) rfl)) ?_
                  refine Steps.cons (fun a w hS hI hp => ok_on rfl (does_val (x_assign rfl ((hp.get 4 (by rfl) rfl rfl))) rfl)) ?_
                  exact Steps.nil
                clear hS
                intro at22 w23 hS hI hp
                have hBw23_w := hI.1
                have hBw23_w8 := hI.2.1
                have hBw23_w13 := hI.2.2.1
                have hBw23_w19 := hI.2.2.2
                have hv11 : sl _ 11 = .int .i64 t21_1 := hp 5 (by decide)
                have hv12 : sl _ 12 = .bool t21_2 := hp 6 (by decide)
                have hBw23_w23 := Below.refl w23.heap.size w23
                have hS := hS.cons hv11
                have hS := hS.cons hv12
                clear hp hI hv11 hv12
                refine hK20 _ _ ?_
                clear hK20 K20
                refine wp_seq_k (fun K24 hK24 => ?_)
                replace hS := ((((((((hS.nil).cons (hS.get 7 rfl)).cons (hS.get 6 rfl)).cons (hS.get 5 rfl)).cons (hS.get 4 rfl)).cons (hS.get 3 rfl)).cons (hS.get 2 rfl)).cons (hS.get 1 rfl)).cons (hS.get 0 rfl)
                refine reg_any (N := 66) (bs := [(12, .bool t21_2), (11, .int .i64 t21_1), (10, .bool t17_2), (9, .int .i64 t17_1), (8, .slice A15 t11.length C15), (7, .slice A14 t10.length C14), (6, .int .i64 t6), (5, .int .i64 t5)]) (I := fun x => Below w.heap.size w x ∧ Below w8.heap.size w8 x ∧ Below w13.heap.size w13 x ∧ Below w23.heap.size w23 x) (ps := [IsV (.bool t17_2), IsV (.bool t17_2), IsV (.bool t21_2), IsV (.bool t21_2), IsV (.bool t21_2), IsV (.int .i64 t17_1), IsV (.int .i64 t5), IsV (.bool (decide (t17_1 = t5))), IsV (.bool (decide (t17_1 = t5))), IsV (.bool (decide (t17_1 = t5))), IsV (.int .i64 t21_1), IsV (.int .i64 t6), IsV (.bool (decide (t21_1 = t6))), IsV (.bool (decide (t21_1 = t6))), IsV (.bool (decide (t21_1 = t6))), IsV (.slice A14 t10.length C14), IsV (.int .i64 (t10.length : Int)), IsV (.bool (decide ((t10.length : Int) = 10))), IsV (.bool (decide ((t10.length : Int) = 10))), IsV (.bool (decide ((t10.length : Int) = 10))), IsV (.slice A14 t10.length C14), IsV (.string (strOfNums t10)), IsV (.slice A15 t11.length C15), IsC (Kd.int .u8) ((t11.take ((t11.length : Int) : Int).toNat).drop (2 : Int).toNat), IsV (.string (strOfNums ((t11.take ((t11.length : Int) : Int).toNat).drop (2 : Int).toNat))), IsV (.bool (Op.bytesLess (strOfNums t10).toList (strOfNums ((t11.take ((t11.length : Int) : Int).toNat).drop (2 : Int).toNat)).toList)), IsV (.int .i64 t5), IsV (.int .i64 t6), IsV (.bool (decide (t5 < t6))), IsV (.bool ((Op.bytesLess (strOfNums t10).toList (strOfNums ((t11.take ((t11.length : Int) : Int).toNat).drop (2 : Int).toNat)).toList) == (decide (t5 < t6)))), IsV (.bool ((Op.bytesLess (strOfNums t10).toList (strOfNums ((t11.take ((t11.length : Int) : Int).toNat).drop (2 : Int).toNat)).toList) == (decide (t5 < t6)))), IsV (.bool ((Op.bytesLess (strOfNums t10).toList (strOfNums ((t11.take ((t11.length : Int) : Int).toNat).drop (2 : Int).toNat)).toList) == (decide (t5 < t6)))), IsV (.bool t25), IsV (.bool t25), IsV (.bool t25)]) (by kernel_rfl) (by kernel_rfl) ?_ ?_ rfl hS ⟨hBw23_w, hBw23_w8, hBw23_w13, hBw23_w23⟩ ?_ ?_
                · exact fun x y hI hb => ⟨below_step hI.1 hb, below_step hI.2.1 hb, below_step hI.2.2.1 hb, below_step hI.2.2.2 hb⟩
                · exact AllStay.cons (Stays.v _) (AllStay.cons (Stays.v _) (AllStay.cons (Stays.v _) (AllStay.cons (Stays.v _) (AllStay.cons (Stays.v _) (AllStay.cons (Stays.v _) (AllStay.cons (Stays.v _) (AllStay.cons (Stays.v _) (AllStay.cons (Stays.v _) (AllStay.cons (Stays.v _) (AllStay.cons (Stays.v _) (AllStay.cons (Stays.v _) (AllStay.cons (Stays.v _) (AllStay.cons (Stays.v _) (AllStay.cons (Stays.v _) (AllStay.cons (Stays.v _) (AllStay.cons (Stays.v _) (AllStay.cons (Stays.v _) (AllStay.cons (Stays.v _) (AllStay.cons (Stays.v _) (AllStay.cons (Stays.v _) (AllStay.cons (Stays.v _) (AllStay.cons (Stays.v _) (AllStay.cons (Stays.c _ _) (AllStay.cons (Stays.v _) (AllStay.cons (Stays.v _) (AllStay.cons (Stays.v _) (AllStay.cons (Stays.v _) (AllStay.cons (Stays.v _) (AllStay.cons (Stays.v _) (AllStay.cons (Stays.v _) (AllStay.cons (Stays.v _) (AllStay.cons (Stays.v _) (AllStay.cons (Stays.v _) (AllStay.cons (Stays.v _) (AllStay.nil)))))))))))))))))))))))))))))))))))
                · refine Steps.cons (fun a w hS hI hp => ok_on rfl (does_val (x_move rfl (hS.get 2 rfl)) rfl)) ?_
                  refine Steps.cons (fun a w hS hI hp => ok_on rfl (does_val (x_move rfl ((hp.get 0 (by rfl) rfl rfl))) rfl)) ?_
                  refine Steps.cons (fun a w hS hI hp => ok_if (d := 33) rfl rfl (by rw [hS.size]; decide) (((hp.get 1 (by rfl) rfl rfl)).trans (bT c1)) (does_val (x_move rfl (hS.get 0 rfl)) rfl)) ?_
                  refine Steps.cons (fun a w hS hI hp => ok_on rfl (does_val (x_pickT rfl (((hp.get 1 (by rfl) rfl rfl)).trans (bT c1)) ((hp.get 2 (by rfl) rfl rfl))) rfl)) ?_
                  refine Steps.cons (fun a w hS hI hp => ok_on rfl (does_val (x_move rfl ((hp.get 3 (by rfl) rfl rfl))) rfl)) ?_
                  refine Steps.cons (fun a w hS hI hp => ok_if (d := 36) rfl rfl (by rw [hS.size]; decide) (((hp.get 4 (by rfl) rfl rfl)).trans (bT c2)) (does_val (x_move rfl (hS.get 3 rfl)) rfl)) ?_
                  refine Steps.cons (fun a w hS hI hp => ok_if (d := 36) rfl rfl (by rw [hS.size]; decide) (((hp.get 4 (by rfl) rfl rfl)).trans (bT c2)) (does_val (x_move rfl (hS.get 7 rfl)) rfl)) ?_
                  refine Steps.cons (fun a w hS hI hp => ok_if (d := 36) rfl rfl (by rw [hS.size]; decide) (((hp.get 4 (by rfl) rfl rfl)).trans (bT c2)) (does_val (x_bin rfl ((hp.get 5 (by rfl) rfl rfl)) ((hp.get 6 (by rfl) rfl rfl)) (b_eql _ _ _ _ _ _)) rfl)) ?_
                  refine Steps.cons (fun a w hS hI hp => ok_on rfl (does_val (x_pickT rfl (((hp.get 4 (by rfl) rfl rfl)).trans (bT c2)) ((hp.get 7 (by rfl) rfl rfl))) rfl)) ?_
                  refine Steps.cons (fun a w hS hI hp => ok_on rfl (does_val (x_move rfl ((hp.get 8 (by rfl) rfl rfl))) rfl)) ?_
                  refine Steps.cons (fun a w hS hI hp => ok_if (d := 41) rfl rfl (by rw [hS.size]; decide) (((hp.get 9 (by rfl) rfl rfl)).trans (bT (decide_eq_true c3))) (does_val (x_move rfl (hS.get 1 rfl)) rfl)) ?_
                  refine Steps.cons (fun a w hS hI hp => ok_if (d := 41) rfl rfl (by rw [hS.size]; decide) (((hp.get 9 (by rfl) rfl rfl)).trans (bT (decide_eq_true c3))) (does_val (x_move rfl (hS.get 6 rfl)) rfl)) ?_
                  refine Steps.cons (fun a w hS hI hp => ok_if (d := 41) rfl rfl (by rw [hS.size]; decide) (((hp.get 9 (by rfl) rfl rfl)).trans (bT (decide_eq_true c3))) (does_val (x_bin rfl ((hp.get 10 (by rfl) rfl rfl)) ((hp.get 11 (by rfl) rfl rfl)) (b_eql _ _ _ _ _ _)) rfl)) ?_
                  refine Steps.cons (fun a w hS hI hp => ok_on rfl (does_val (x_pickT rfl (((hp.get 9 (by rfl) rfl rfl)).trans (bT (decide_eq_true c3))) ((hp.get 12 (by rfl) rfl rfl))) rfl)) ?_
                  refine Steps.cons (fun a w hS hI hp => ok_on rfl (does_val (x_move rfl ((hp.get 13 (by rfl) rfl rfl))) rfl)) ?_
                  refine Steps.cons (fun a w hS hI hp => ok_if (d := 46) rfl rfl (by rw [hS.size]; decide) (((hp.get 14 (by rfl) rfl rfl)).trans (bT (decide_eq_true c4))) (does_val (x_move rfl (hS.get 5 rfl)) rfl)) ?_
                  refine Steps.cons (fun a w hS hI hp => ok_if (d := 46) rfl rfl (by rw [hS.size]; decide) (((hp.get 14 (by rfl) rfl rfl)).trans (bT (decide_eq_true c4))) (does_val (x_len (e := 5) rfl (by kernel_rfl) ((hp.get 15 (by rfl) rfl rfl))) rfl)) ?_
                  refine Steps.cons (fun a w hS hI hp => ok_if (d := 46) rfl rfl (by rw [hS.size]; decide) (((hp.get 14 (by rfl) rfl rfl)).trans (bT (decide_eq_true c4))) (does_val (x_bin rfl ((hp.get 16 (by rfl) rfl rfl)) (rfl) (b_eql _ _ _ _ _ _)) rfl)) ?_
                  refine Steps.cons (fun a w hS hI hp => ok_on rfl (does_val (x_pickT rfl (((hp.get 14 (by rfl) rfl rfl)).trans (bT (decide_eq_true c4))) ((hp.get 17 (by rfl) rfl rfl))) rfl)) ?_
                  refine Steps.cons (fun a w hS hI hp => ok_on rfl (does_val (x_move rfl ((hp.get 18 (by rfl) rfl rfl))) rfl)) ?_
                  refine Steps.cons (fun a w hS hI hp => ok_if (d := 51) rfl rfl (by rw [hS.size]; decide) (((hp.get 19 (by rfl) rfl rfl)).trans (bT (decide_eq_true c5))) (does_val (x_move rfl (hS.get 5 rfl)) rfl)) ?_
                  refine Steps.cons (fun a w hS hI hp => ok_if (d := 51) rfl rfl (by rw [hS.size]; decide) (((hp.get 19 (by rfl) rfl rfl)).trans (bT (decide_eq_true c5))) (does_val (x_conv rfl ((hp.get 20 (by rfl) rfl rfl)) (Kd.C_string (by kernel_rfl) (e := 5) (by kernel_rfl) (by kernel_rfl) (Kd.C_below hc14 hI.2.2.1))) rfl)) ?_
                  refine Steps.cons (fun a w hS hI hp => ok_if (d := 51) rfl rfl (by rw [hS.size]; decide) (((hp.get 19 (by rfl) rfl rfl)).trans (bT (decide_eq_true c5))) (does_val (x_move rfl (hS.get 4 rfl)) rfl)) ?_
                  refine Steps.cons (fun a w hS hI hp => ok_if (d := 51) rfl rfl (by rw [hS.size]; decide) (((hp.get 19 (by rfl) rfl rfl)).trans (bT (decide_eq_true c5))) (does_cut (i := 2) (j := (t11.length : Int)) rfl (e := 5) (by kernel_rfl) (by kernel_rfl) ((hp.get 22 (by rfl) rfl rfl)) (.inr ⟨_, rfl, rfl⟩) (.inl ⟨rfl, rfl⟩) (by decide) c6 (Int.le_refl _) hl15 ((Kd.C_below hc15 hI.2.2.1)))) ?_
                  refine Steps.cons (fun a w hS hI hp => ok_if (d := 51) rfl rfl (by rw [hS.size]; decide) (((hp.get 19 (by rfl) rfl rfl)).trans (bT (decide_eq_true c5))) (((hp.get 23 (by rfl) rfl rfl)).elim fun A_ h_ => h_.elim fun c_ h_ => h_.elim fun hv_ h_ => h_.elim fun hl_ hc_ => does_val (x_conv rfl hv_ (Kd.C_string (by kernel_rfl) (e := 5) (by kernel_rfl) (by kernel_rfl) hc_)) rfl)) ?_
                  refine Steps.cons (fun a w hS hI hp => ok_if (d := 51) rfl rfl (by rw [hS.size]; decide) (((hp.get 19 (by rfl) rfl rfl)).trans (bT (decide_eq_true c5))) (does_val (x_bin rfl ((hp.get 21 (by rfl) rfl rfl)) ((hp.get 24 (by rfl) rfl rfl)) (b_lts _ _ _ _ _)) rfl)) ?_
                  refine Steps.cons (fun a w hS hI hp => ok_if (d := 51) rfl rfl (by rw [hS.size]; decide) (((hp.get 19 (by rfl) rfl rfl)).trans (bT (decide_eq_true c5))) (does_val (x_move rfl (hS.get 7 rfl)) rfl)) ?_
                  refine Steps.cons (fun a w hS hI hp => ok_if (d := 51) rfl rfl (by rw [hS.size]; decide) (((hp.get 19 (by rfl) rfl rfl)).trans (bT (decide_eq_true c5))) (does_val (x_move rfl (hS.get 6 rfl)) rfl)) ?_
                  refine Steps.cons (fun a w hS hI hp => ok_if (d := 51) rfl rfl (by rw [hS.size]; decide) (((hp.get 19 (by rfl) rfl rfl)).trans (bT (decide_eq_true c5))) (does_val (x_bin rfl ((hp.get 26 (by rfl) rfl rfl)) ((hp.get 27 (by rfl) rfl rfl)) (b_lss _ _ _ _ _ _)) rfl)) ?_
                  refine Steps.cons (fun a w hS hI hp => ok_if (d := 51) rfl rfl (by rw [hS.size]; decide) (((hp.get 19 (by rfl) rfl rfl)).trans (bT (decide_eq_true c5))) (does_val (x_bin rfl ((hp.get 25 (by rfl) rfl rfl)) ((hp.get 28 (by rfl) rfl rfl)) (b_eqb _ _ _ _ _ (by kernel_rfl))) rfl)) ?_
                  refine Steps.cons (fun a w hS hI hp => ok_on rfl (does_val (x_pickT rfl (((hp.get 19 (by rfl) rfl rfl)).trans (bT (decide_eq_true c5))) ((hp.get 29 (by rfl) rfl rfl))) rfl)) ?_
                  refine Steps.cons (fun a w hS hI hp => ok_on rfl (does_val (x_move rfl ((hp.get 30 (by rfl) rfl rfl))) rfl)) ?_
                  refine Steps.cons (fun a w hS hI hp => ok_if (d := 63) rfl rfl (by rw [hS.size]; decide) (((hp.get 31 (by rfl) rfl rfl)).trans (bT c7)) (does_call (by kernel_rfl) rfl ((carillonlaw02_awake.calls  t25 _  At25).mono fun _ _ h => ⟨_, h.1, h.2, rfl⟩))) ?_
                  refine Steps.cons (fun a w hS hI hp => ok_on rfl (does_val (x_pickT rfl (((hp.get 31 (by rfl) rfl rfl)).trans (bT c7)) ((hp.get 32 (by rfl) rfl rfl))) rfl)) ?_
                  refine Steps.cons (fun a w hS hI hp => ok_on rfl (does_val (x_assign rfl ((hp.get 33 (by rfl) rfl rfl))) rfl)) ?_
                  exact Steps.nil
                clear hS
                intro at26 w27 hS hI hp
                have hBw27_w := hI.1
                have hBw27_w8 := hI.2.1
                have hBw27_w13 := hI.2.2.1
                have hBw27_w23 := hI.2.2.2
                replace hS := hS.nil
                have hv4 : sl _ 4 = .bool t25 := hp 34 (by decide)
                have hBw27_w27 := Below.refl w27.heap.size w27
                have hS := hS.cons hv4
                clear hp hI hv4
                refine hK24 _ _ ?_
                clear hK24 K24
                refine wp_ret ?_
                (try simp only [Exit.then, Exit.inBlock])
                exact bodyPost_ret (v := .bool true) (by rw [results_tmp rfl]; exact congrArg (Result.ok · _) ((hS.get 0 rfl).trans (congrArg Value.bool hret))) hS.nodef ⟨rfl, hBw27_w⟩
              · rw [if_neg c7] at H
                exact absurd H (by simp)
            · rw [if_neg c6] at H
              exact absurd H (by simp)
          · rw [if_neg c5] at H
            exact absurd H (by simp)
        · rw [if_neg c4] at H
          exact absurd H (by simp)
      · rw [if_neg c3] at H
        exact absurd H (by simp)
    · rw [if_neg c2] at H
      exact absurd H (by simp)
  · rw [if_neg c1] at H
    exact absurd H (by simp)

/-- The one pure statement of carillonlaw02_StampBack. -/
def carillonlaw02_StampBack.Pure : Prop := ∀ (a0 : Int) (a1 : Int), (Lit.int .i64 a0).wf = true → (Lit.int .i64 a1).wf = true → ∃ k, carillonlaw02_StampBack.f k a0 a1 = some true
theorem carillonlaw02_StampBack.walk (P : carillonlaw02_StampBack.Pure) (a0 : Int) (a1 : Int) (w : World) (w0 : (Lit.int .i64 a0).wf = true) (w1 : (Lit.int .i64 a1).wf = true) :
    Calls Try.prog 10 #[.int .i64 a0, .int .i64 a1] w fun e w' => e = .returned (.bool true) ∧ Below w.heap.size w w' := by
  obtain ⟨k, h⟩ := P a0 a1 w0 w1
  refine (carillonlaw02_StampBack.calls k a0 a1 w  h).mono ?_
  rintro e w' ⟨rfl, hd⟩
  exact ⟨rfl, hd⟩

end Go.Proofs.Yteahnnhekfkabaa.P
