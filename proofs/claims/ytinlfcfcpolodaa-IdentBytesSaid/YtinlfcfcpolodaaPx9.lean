/- Functions and loops of the given program as Lean functions, and that the code comes to what they say: written by this session's own program; Lean checks it. -/
import Derived.Test.YtinlfcfcpolodaaPx0
import Derived.Test.YtinlfcfcpolodaaPx3
import Derived.Test.YtinlfcfcpolodaaPx5
import Derived.Test.YtinlfcfcpolodaaPx6
import Derived.Test.YtinlfcfcpolodaaPx7
import Derived.Test.YtinlfcfcpolodaaPx8
namespace Go.Proofs.Ytinlfcfcpolodaa.P
open Go.RowKit Go.Proofs.YtinlfcfcpolodaaW.PrintWords Go.Proofs.YtinlfcfcpolodaaW.PrintLast Go.Proofs.YtinlfcfcpolodaaW.PrintMore
attribute [local go_sem] max2_int min2_int max_two min_two max_three min_three max_four min_four   -- for this text's walks alone
set_option linter.unusedVariables false
set_option linter.unusedSimpArgs false

/-! ### carillonlaw04_IdentBytes: function 5: by our own printer -/
def carillonlaw04_IdentBytes.f (k : Nat) (l0 : List Int) (a1_0 : Int) (a1_1 : Int) (a2 : Int) : Option (Bool) := if l0.length * 1 ≤ 140737488355328 then (if (l0.length + [99].length) * 1 ≤ 140737488355328 then (if 0 ≤ (l0.length : Int) then (if (l0.length : Int) ≤ ((l0 ++ [99] : List Int).length : Int) then ((ident_Get.f k ((l0 ++ [99] : List Int).take ((l0.length : Int) : Int).toNat) a2).bind fun t17 => ((carillonref04_Get.f k l0 a2).bind fun t24 => ((carillonlaw00_Bytes.f l0).bind fun t31 => ((ident_FromMac.f k t31).bind fun t32 => ((carillonref04_FromMac.f k l0).bind fun t36 => ((ident_Put.f ((l0 ++ [99] : List Int).take ((l0.length : Int) : Int).toNat) a1_0 a1_1).bind fun t40 => ((carillonref04_Put.f k a1_0 a1_1).bind fun t41 => (if (strOfNums l0).size + (strOfNums t41).size ≤ 9223372036854775807 then (if ((strOfNums t40).toList == ((strOfNums l0) ++ (strOfNums t41)).toList) = true then ((ident_May.f a1_0 a1_1).bind fun t42 => ((carillonref04_May.f a1_0 a1_1).bind fun t43 => (if (t42 == t43) = true then (if ((t17.1 == t24.1) && (t17.2.1 == t24.2.1)) = true then (if (t17.2.2 == t24.2.2) = true then (if t32.1 = t36.1 then (if (t32.2 == t36.2) = true then (if 0 ≤ (wrap64 ((l0.length : Int) + 1)) then (if (wrap64 ((l0.length : Int) + 1)) ≤ ((l0 ++ [99] : List Int).length : Int) then (if (l0.length : Int) < (((l0 ++ [99] : List Int).take (wrap64 ((l0.length : Int) + 1) : Int).toNat).length : Int) then (if (l0.length : Int) < ((l0 ++ [99] : List Int).length : Int) then (if (rd (l0 ++ [99] : List Int) (l0.length : Int)) = 99 then ((carillonlaw04_awake.f k ).bind fun t44 => (some t44)) else (some false)) else (none)) else (none)) else (none)) else (none)) else (some false)) else (some false)) else (some false)) else (some false)) else (some false)))) else (some false)) else (none))))))))) else (none)) else (none)) else (none)) else (none)
open Go.Proofs.Ytinlfcfcpolodaa.E in
set_option maxRecDepth 100000 in
theorem carillonlaw04_IdentBytes.eql31 (x y : Operand) (w : World) (a0 a1 b0 b1 : Int) : (do eqGuard .eql 31 x y (.agg #[.int .u64 a0, .int .i64 a1]) (.agg #[.int .u64 b0, .int .i64 b1]); binOp .eql 31 (.agg #[.int .u64 a0, .int .i64 a1]) (.agg #[.int .u64 b0, .int .i64 b1]) : Sem Value).run Try.prog w = .ok (.bool ((a0 == b0) && (a1 == b1))) w := by
  have hu3 := Try.underlying3
  have hu22 := Try.underlying22
  have hu31 := Try.underlying31
  conv => lhs; simp [eqGuard, go_sem, hu3, hu22, hu31]
  exact ite_and (ite_last)
open Go.Proofs.Ytinlfcfcpolodaa.E in
set_option maxHeartbeats 8000000 in
set_option maxRecDepth 100000 in
theorem carillonlaw04_IdentBytes.calls (k : Nat) (A0 : Option Addr) (c0 : Nat) (l0 : List Int) (a1_0 : Int) (a1_1 : Int) (a2 : Int) (w : World) (HR0 : Kd.C (Kd.int .u8) w A0 l0.length l0) (HC0 : l0.length ≤ c0) (h : carillonlaw04_IdentBytes.f k l0 a1_0 a1_1 a2 = some true) :
    Calls Try.prog 5 #[.slice A0 l0.length c0, .agg #[.int .u64 a1_0, .int .i64 a1_1], .int .i64 a2] w fun e w' => e = .returned (.bool true) ∧ Below w.heap.size w w' := by
  have H := h
  clear h
  unfold carillonlaw04_IdentBytes.f at H
  by_cases c1 : l0.length * 1 ≤ 140737488355328
  · rw [if_pos c1] at H
    by_cases c2 : (l0.length + [99].length) * 1 ≤ 140737488355328
    · rw [if_pos c2] at H
      by_cases c3 : 0 ≤ (l0.length : Int)
      · rw [if_pos c3] at H
        by_cases c4 : (l0.length : Int) ≤ ((l0 ++ [99] : List Int).length : Int)
        · rw [if_pos c4] at H
          obtain ⟨t17, At17, H⟩ := Option.bind_eq_some_iff.mp H
          obtain ⟨t17_1, t17_2, t17_3⟩ := t17
          (try dsimp only at H)
          obtain ⟨t24, At24, H⟩ := Option.bind_eq_some_iff.mp H
          obtain ⟨t24_1, t24_2, t24_3⟩ := t24
          (try dsimp only at H)
          obtain ⟨t31, At31, H⟩ := Option.bind_eq_some_iff.mp H
          obtain ⟨t32, At32, H⟩ := Option.bind_eq_some_iff.mp H
          obtain ⟨t32_1, t32_2⟩ := t32
          (try dsimp only at H)
          obtain ⟨t36, At36, H⟩ := Option.bind_eq_some_iff.mp H
          obtain ⟨t36_1, t36_2⟩ := t36
          (try dsimp only at H)
          obtain ⟨t40, At40, H⟩ := Option.bind_eq_some_iff.mp H
          obtain ⟨t41, At41, H⟩ := Option.bind_eq_some_iff.mp H
          by_cases c5 : (strOfNums l0).size + (strOfNums t41).size ≤ 9223372036854775807
          · rw [if_pos c5] at H
            by_cases c6 : ((strOfNums t40).toList == ((strOfNums l0) ++ (strOfNums t41)).toList) = true
            · rw [if_pos c6] at H
              obtain ⟨t42, At42, H⟩ := Option.bind_eq_some_iff.mp H
              obtain ⟨t43, At43, H⟩ := Option.bind_eq_some_iff.mp H
              by_cases c7 : (t42 == t43) = true
              · rw [if_pos c7] at H
                by_cases c8 : ((t17_1 == t24_1) && (t17_2 == t24_2)) = true
                · rw [if_pos c8] at H
                  by_cases c9 : (t17_3 == t24_3) = true
                  · rw [if_pos c9] at H
                    by_cases c10 : t32_1 = t36_1
                    · rw [if_pos c10] at H
                      by_cases c11 : (t32_2 == t36_2) = true
                      · rw [if_pos c11] at H
                        by_cases c12 : 0 ≤ (wrap64 ((l0.length : Int) + 1))
                        · rw [if_pos c12] at H
                          by_cases c13 : (wrap64 ((l0.length : Int) + 1)) ≤ ((l0 ++ [99] : List Int).length : Int)
                          · rw [if_pos c13] at H
                            by_cases c14 : (l0.length : Int) < (((l0 ++ [99] : List Int).take (wrap64 ((l0.length : Int) + 1) : Int).toNat).length : Int)
                            · rw [if_pos c14] at H
                              by_cases c15 : (l0.length : Int) < ((l0 ++ [99] : List Int).length : Int)
                              · rw [if_pos c15] at H
                                by_cases c16 : (rd (l0 ++ [99] : List Int) (l0.length : Int)) = 99
                                · rw [if_pos c16] at H
                                  obtain ⟨t44, At44, H⟩ := Option.bind_eq_some_iff.mp H
                                  have hret := Option.some.inj H
                                  clear H
                                  refine calls_of_wp (fn := Try.f5) (by kernel_rfl) rfl ?_
                                  have hS := St.enter #[.slice A0 l0.length c0, .agg #[.int .u64 a1_0, .int .i64 a1_1], .int .i64 a2] 99 (by simp) [(0, .slice A0 l0.length c0), (1, .agg #[.int .u64 a1_0, .int .i64 a1_1]), (2, .int .i64 a2)] (by simp)
                                  have HB0 := Below.refl w.heap.size w
                                  refine wp_seq_k (fun K1 hK1 => ?_)
                                  refine reg_seq (N := 99) (bs := [(0, .slice A0 l0.length c0), (1, .agg #[.int .u64 a1_0, .int .i64 a1_1]), (2, .int .i64 a2)]) (I := fun x => Below w.heap.size w x) (ps := [IsB #[.int .u64 a1_0, .int .i64 a1_1] 31 w.heap.size, IsV (.bool false)]) (by kernel_rfl) ?_ ?_ rfl hS HB0 ?_ ?_
                                  · exact fun x y hI hb => below_step hI hb
                                  · exact AllStay.cons (Stays.b _ _ _) (AllStay.cons (Stays.v _) (AllStay.nil))
                                  · refine Steps.cons (fun a w hS hI hp => ok_on rfl (does_var (x_box rfl (congrArg Value.cells (hS.get 1 rfl))) (hI).size)) ?_
                                    refine Steps.cons (fun a w hS hI hp => ok_on rfl (does_val (x_assign rfl (rfl)) rfl)) ?_
                                    exact Steps.nil
                                  clear hS
                                  intro at2 w3 hS hI hp
                                  have hBw3_w := hI
                                  obtain ⟨g4, hv4, hgeg4, hbxg4⟩ := (show IsB _ 31 _ (sl _ 4) _ from hp 0 (by decide))
                                  have hv6 : sl _ 6 = .bool false := hp 1 (by decide)
                                  have hBw3_w3 := Below.refl w3.heap.size w3
                                  have hS := hS.cons hv4
                                  have hS := hS.cons hv6
                                  clear hp hI hv4 hv6
                                  refine hK1 _ _ ?_
                                  clear hK1 K1
                                  refine wp_seq_k (fun K5 hK5 => ?_)
                                  refine reg_seq_tail 3 (N := 99) (bs := [(6, .bool false), (4, .pointer (some ⟨g4, 0, none⟩)), (0, .slice A0 l0.length c0), (1, .agg #[.int .u64 a1_0, .int .i64 a1_1]), (2, .int .i64 a2)]) (I := fun x => Below w.heap.size w x ∧ Below w3.heap.size w3 x) (ps := [IsV (.slice A0 l0.length c0), IsR (Kd.int .u8) 5 w3.heap.size l0, IsR (Kd.int .u8) 5 w3.heap.size [99]]) (by kernel_rfl) ?_ ?_ rfl hS ⟨hBw3_w, hBw3_w3⟩ ?_ ?_
                                  · exact fun x y hI hb => ⟨below_step hI.1 hb, below_step hI.2 hb⟩
                                  · exact AllStay.cons (Stays.v _) (AllStay.cons (Stays.r _ _ _ _) (AllStay.cons (Stays.r _ _ _ _) (AllStay.nil)))
                                  · refine Steps.cons (fun a w hS hI hp => ok_on rfl (does_val (x_move rfl (hS.get 2 rfl)) rfl)) ?_
                                    refine Steps.cons (fun a w hS hI hp => ok_on rfl (does_copy w3.heap.size _ (.tmp 16) 23 5 1 rfl (by kernel_rfl) (by kernel_rfl) (by decide) l0 _ _ (rfl) ((hp.get 0 (by rfl) rfl rfl)) ((Kd.C_below HR0 hI.1)) (hI.2).size c1)) ?_
                                    refine Steps.cons (fun a w hS hI hp => ok_on rfl (does_lit w3.heap.size 23 5 1 _ [(0, .int .u8 99)] [99] rfl (by kernel_rfl) (by rw [Array.toList_map]; exact (show [(0, a.eval (.const (.int .u8 99)))] = _ from (li_cons (rfl) rfl))) (by kernel_rfl) rfl (hI.2).size (by decide))) ?_
                                    exact Steps.nil
                                  clear hS
                                  intro at6 w7 hS hI hp
                                  have hBw7_w := hI.1
                                  have hBw7_w3 := hI.2
                                  obtain ⟨A8, C8, hv17, hl8, hc8⟩ := Kd.R_reads (show Kd.R (Kd.int .u8) 5 w7 w3.heap.size (fun _ => True) (sl _ 17) l0 from hp 1 (by decide))
                                  have ho8 : Kd.R (Kd.int .u8) 5 w7 w3.heap.size (fun _ => True) (.slice A8 l0.length C8) l0 := hv17 ▸ (hp 1 (by decide))
                                  obtain ⟨A9, C9, hv18, hl9, hc9⟩ := Kd.R_reads (show Kd.R (Kd.int .u8) 5 w7 w3.heap.size (fun _ => True) (sl _ 18) [99] from hp 2 (by decide))
                                  have ho9 : Kd.R (Kd.int .u8) 5 w7 w3.heap.size (fun _ => True) (.slice A9 [99].length C9) [99] := hv18 ▸ (hp 2 (by decide))
                                  have hBw7_w7 := Below.refl w7.heap.size w7
                                  have hS := hS.cons hv17
                                  have hS := hS.cons hv18
                                  clear hp hI hv17 hv18
                                  show wpList _ _ _ [_, _, _, _, _] _ _
                                  refine list_step rfl (does_more (W := w3) (.tmp 17) (.tmp 18) 23 5 1 rfl (by kernel_rfl) (by kernel_rfl) (by decide) _ l0 [99] _ _ (hS.get 1 rfl) (hS.get 0 rfl) (Kd.R_below ho8 hBw7_w7) (Kd.C_below hc9 hBw7_w7) hBw7_w3 c2) ?_
                                  rintro vw10 w10 ⟨hb, hr⟩
                                  have hBw10_w := below_step hBw3_w hb
                                  have hBw10_w3 := hb
                                  replace hS := (((((hS.nil).cons (hS.get 6 rfl)).cons (hS.get 5 rfl)).cons (hS.get 4 rfl)).cons (hS.get 3 rfl)).cons (hS.get 2 rfl)
                                  have hBw10_w10 := Below.refl w10.heap.size w10
                                  obtain ⟨A11, C11, rfl, hl11, hc11⟩ := Kd.R_reads hr
                                  have hr11 := hr
                                  clear hr
                                  replace hS := hS.put (v := .slice A11 ((l0 ++ [99] : List Int).length) C11) (d := 19) (by decide) (by rfl)
                                  refine list_step rfl (R := fun v w' => Below _ _ w' ∧ (IsV (.slice A0 l0.length c0)) v w') (does_val (x_move rfl (hS.get 3 rfl)) rfl) ?_
                                  rintro vw12 w12 ⟨hb, he⟩
                                  have hBw12_w := below_step hBw10_w hb
                                  have hBw12_w3 := below_step hBw10_w3 hb
                                  have hBw12_w10 := below_step hBw10_w10 hb
                                  have hBw12_w12 := Below.refl w12.heap.size w12
                                  obtain rfl : vw12 = .slice A0 l0.length c0 := he
                                  replace hS := hS.put (v := .slice A0 l0.length c0) (d := 20) (by decide) (by rfl)
                                  refine list_step rfl (R := fun v w' => Below _ _ w' ∧ (IsV (.int .i64 (l0.length : Int))) v w') (does_val (x_len (e := 5) rfl (by kernel_rfl) (hS.get 0 rfl)) rfl) ?_
                                  rintro vw13 w13 ⟨hb, he⟩
                                  have hBw13_w := below_step hBw12_w hb
                                  have hBw13_w3 := below_step hBw12_w3 hb
                                  have hBw13_w10 := below_step hBw12_w10 hb
                                  have hBw13_w12 := below_step hBw12_w12 hb
                                  have hBw13_w13 := Below.refl w13.heap.size w13
                                  obtain rfl : vw13 = .int .i64 (l0.length : Int) := he
                                  replace hS := hS.put (v := .int .i64 (l0.length : Int)) (d := 21) (by decide) (by rfl)
                                  refine list_step rfl (R := fun v w' => Below _ _ w' ∧ (IsV (.slice A11 (((l0 ++ [99] : List Int).take ((l0.length : Int) : Int).toNat).length) C11)) v w') (does_val (x_cuthi rfl (e := 5) (xs := (l0 ++ [99] : List Int)) (by kernel_rfl) (by kernel_rfl) (hS.get 2 rfl) (hS.get 0 rfl) c3 c4 hl11) rfl) ?_
                                  rintro vw14 w14 ⟨hb, he⟩
                                  have hBw14_w := below_step hBw13_w hb
                                  have hBw14_w3 := below_step hBw13_w3 hb
                                  have hBw14_w10 := below_step hBw13_w10 hb
                                  have hBw14_w13 := below_step hBw13_w13 hb
                                  have hBw14_w14 := Below.refl w14.heap.size w14
                                  obtain rfl : vw14 = .slice A11 (((l0 ++ [99] : List Int).take ((l0.length : Int) : Int).toNat).length) C11 := he
                                  replace hS := hS.put (v := .slice A11 (((l0 ++ [99] : List Int).take ((l0.length : Int) : Int).toNat).length) C11) (d := 22) (by decide) (by rfl)
                                  refine list_step rfl (R := fun v w' => Below _ _ w' ∧ (IsV (.slice A11 (((l0 ++ [99] : List Int).take ((l0.length : Int) : Int).toNat).length) C11)) v w') (does_val (x_assign rfl (hS.get 0 rfl)) rfl) ?_
                                  rintro vw15 w15 ⟨hb, he⟩
                                  have hBw15_w := below_step hBw14_w hb
                                  have hBw15_w3 := below_step hBw14_w3 hb
                                  have hBw15_w10 := below_step hBw14_w10 hb
                                  have hBw15_w14 := below_step hBw14_w14 hb
                                  have hBw15_w15 := Below.refl w15.heap.size w15
                                  obtain rfl : vw15 = .slice A11 (((l0 ++ [99] : List Int).take ((l0.length : Int) : Int).toNat).length) C11 := he
                                  replace hS := hS.put (v := .slice A11 (((l0 ++ [99] : List Int).take ((l0.length : Int) : Int).toNat).length) C11) (d := 7) (by decide) (by rfl)
                                  refine wpList_nil ?_
                                  refine hK5 _ _ ?_
                                  clear hK5 K5
                                  refine wp_seq_k (fun K16 hK16 => ?_)
                                  refine reg_seq_tail 7 (N := 99) (bs := [(7, .slice A11 (((l0 ++ [99] : List Int).take ((l0.length : Int) : Int).toNat).length) C11), (22, .slice A11 (((l0 ++ [99] : List Int).take ((l0.length : Int) : Int).toNat).length) C11), (21, .int .i64 (l0.length : Int)), (20, .slice A0 l0.length c0), (19, .slice A11 ((l0 ++ [99] : List Int).length) C11), (6, .bool false), (4, .pointer (some ⟨g4, 0, none⟩)), (0, .slice A0 l0.length c0), (1, .agg #[.int .u64 a1_0, .int .i64 a1_1]), (2, .int .i64 a2)]) (I := fun x => Below w.heap.size w x ∧ Below w3.heap.size w3 x ∧ Below w10.heap.size w10 x ∧ Below w15.heap.size w15 x) (ps := [IsV (.slice A11 (((l0 ++ [99] : List Int).take ((l0.length : Int) : Int).toNat).length) C11), IsV (.int .i64 a2), IsV (.tuple #[.agg #[.int .u64 t17_1, .int .i64 t17_2], .bool t17_3]), IsV (.tuple #[.agg #[.int .u64 t17_1, .int .i64 t17_2], .bool t17_3]), IsV (.agg #[.int .u64 t17_1, .int .i64 t17_2]), IsV (.bool t17_3), IsB #[.int .u64 0, .int .i64 0] 31 w15.heap.size]) (by kernel_rfl) ?_ ?_ rfl hS ⟨hBw15_w, hBw15_w3, hBw15_w10, hBw15_w15⟩ ?_ ?_
                                  · exact fun x y hI hb => ⟨below_step hI.1 hb, below_step hI.2.1 hb, below_step hI.2.2.1 hb, below_step hI.2.2.2 hb⟩
                                  · exact AllStay.cons (Stays.v _) (AllStay.cons (Stays.v _) (AllStay.cons (Stays.v _) (AllStay.cons (Stays.v _) (AllStay.cons (Stays.v _) (AllStay.cons (Stays.v _) (AllStay.cons (Stays.b _ _ _) (AllStay.nil)))))))
                                  · refine Steps.cons (fun a w hS hI hp => ok_on rfl (does_val (x_move rfl (hS.get 0 rfl)) rfl)) ?_
                                    refine Steps.cons (fun a w hS hI hp => ok_on rfl (does_val (x_move rfl (hS.get 9 rfl)) rfl)) ?_
                                    refine Steps.cons (fun a w hS hI hp => ok_on rfl (does_call (by kernel_rfl) (ar2 ((hp.get 0 (by rfl) rfl rfl)) ((hp.get 1 (by rfl) rfl rfl))) ((ident_Get.calls k _ _ ((l0 ++ [99] : List Int).take ((l0.length : Int) : Int).toNat) a2 t17_1 t17_2 t17_3 _ (Kd.C_take (m := ((l0.length : Int) : Int).toNat) (Kd.C_below hc11 hI.2.2.1) (by have := c4; omega)) (Nat.le_trans (List.length_take_le' _ _) hl11) At17).mono fun _ _ h => ⟨_, h.1, h.2, rfl⟩))) ?_
                                    refine Steps.cons (fun a w hS hI hp => ok_on rfl (does_val (x_move rfl ((hp.get 2 (by rfl) rfl rfl))) rfl)) ?_
                                    refine Steps.cons (fun a w hS hI hp => ok_on rfl (does_val (x_extract rfl ((hp.get 3 (by rfl) rfl rfl)) rfl) rfl)) ?_
                                    refine Steps.cons (fun a w hS hI hp => ok_on rfl (does_val (x_extract rfl ((hp.get 3 (by rfl) rfl rfl)) rfl) rfl)) ?_
                                    refine Steps.cons (fun a w hS hI hp => ok_on rfl (does_var (x_alloc rfl (by kernel_rfl)) (hI.2.2.2).size)) ?_
                                    exact Steps.nil
                                  clear hS
                                  intro at18 w19 hS hI hp
                                  have hBw19_w := hI.1
                                  have hBw19_w3 := hI.2.1
                                  have hBw19_w10 := hI.2.2.1
                                  have hBw19_w15 := hI.2.2.2
                                  have hv27 : sl _ 27 = .agg #[.int .u64 t17_1, .int .i64 t17_2] := hp 4 (by decide)
                                  have hv28 : sl _ 28 = .bool t17_3 := hp 5 (by decide)
                                  obtain ⟨g20, hv8, hgeg20, hbxg20⟩ := (show IsB _ 31 _ (sl _ 8) _ from hp 6 (by decide))
                                  have hBw19_w19 := Below.refl w19.heap.size w19
                                  have hS := hS.cons hv27
                                  have hS := hS.cons hv28
                                  have hS := hS.cons hv8
                                  clear hp hI hv27 hv28 hv8
                                  show wpList _ _ _ [_, _] _ _
                                  refine list_step rfl (does_store (g := g20) (off := 0) (v := .agg #[.int .u64 t17_1, .int .i64 t17_2]) (new := #[.int .u64 t17_1, .int .i64 t17_2]) rfl (hS.get 0 rfl) (hS.get 2 rfl) ((hBw19_w19.block g20 (blk_lt hbxg20)).trans hbxg20) (by kernel_rfl) (Nat.le_of_ble_eq_true rfl) (by simp [Value.cells, Value.oneCell']) rfl) ?_
                                  rintro vw21 w21 ⟨rfl, hbxw21, hT⟩
                                  have hBw21_w := hT.below hBw19_w (Nat.le_trans (hBw15_w).size hgeg20) (hBw19_w).size
                                  have hBw21_w3 := hT.below hBw19_w3 (Nat.le_trans (hBw15_w3).size hgeg20) (hBw19_w3).size
                                  have hBw21_w10 := hT.below hBw19_w10 (Nat.le_trans (hBw15_w10).size hgeg20) (hBw19_w10).size
                                  have hBw21_w15 := hT.below hBw19_w15 hgeg20 (hBw19_w15).size
                                  have hBw21_w21 := Below.refl w21.heap.size w21
                                  clear hT
                                  refine list_step rfl (R := fun v w' => Below _ _ w' ∧ (IsV (.bool t17_3)) v w') (does_val (x_assign rfl (hS.get 1 rfl)) rfl) ?_
                                  rintro vw22 w22 ⟨hb, he⟩
                                  have hBw22_w := below_step hBw21_w hb
                                  have hBw22_w3 := below_step hBw21_w3 hb
                                  have hBw22_w10 := below_step hBw21_w10 hb
                                  have hBw22_w15 := below_step hBw21_w15 hb
                                  have hBw22_w21 := below_step hBw21_w21 hb
                                  have hBw22_w22 := Below.refl w22.heap.size w22
                                  obtain rfl : vw22 = .bool t17_3 := he
                                  replace hS := hS.put (v := .bool t17_3) (d := 9) (by decide) (by rfl)
                                  refine wpList_nil ?_
                                  refine hK16 _ _ ?_
                                  clear hK16 K16
                                  refine wp_seq_k (fun K23 hK23 => ?_)
                                  refine reg_seq_tail 7 (N := 99) (bs := [(9, .bool t17_3), (8, .pointer (some ⟨g20, 0, none⟩)), (28, .bool t17_3), (27, .agg #[.int .u64 t17_1, .int .i64 t17_2]), (7, .slice A11 (((l0 ++ [99] : List Int).take ((l0.length : Int) : Int).toNat).length) C11), (22, .slice A11 (((l0 ++ [99] : List Int).take ((l0.length : Int) : Int).toNat).length) C11), (21, .int .i64 (l0.length : Int)), (20, .slice A0 l0.length c0), (19, .slice A11 ((l0 ++ [99] : List Int).length) C11), (6, .bool false), (4, .pointer (some ⟨g4, 0, none⟩)), (0, .slice A0 l0.length c0), (1, .agg #[.int .u64 a1_0, .int .i64 a1_1]), (2, .int .i64 a2)]) (I := fun x => Below w.heap.size w x ∧ Below w3.heap.size w3 x ∧ Below w10.heap.size w10 x ∧ Below w15.heap.size w15 x ∧ Below w21.heap.size w21 x ∧ Below w22.heap.size w22 x) (ps := [IsV (.slice A0 l0.length c0), IsV (.int .i64 a2), IsV (.tuple #[.agg #[.int .u64 t24_1, .int .i64 t24_2], .bool t24_3]), IsV (.tuple #[.agg #[.int .u64 t24_1, .int .i64 t24_2], .bool t24_3]), IsV (.agg #[.int .u64 t24_1, .int .i64 t24_2]), IsV (.bool t24_3), IsB #[.int .u64 0, .int .i64 0] 31 w22.heap.size]) (by kernel_rfl) ?_ ?_ rfl hS ⟨hBw22_w, hBw22_w3, hBw22_w10, hBw22_w15, hBw22_w21, hBw22_w22⟩ ?_ ?_
                                  · exact fun x y hI hb => ⟨below_step hI.1 hb, below_step hI.2.1 hb, below_step hI.2.2.1 hb, below_step hI.2.2.2.1 hb, below_step hI.2.2.2.2.1 hb, below_step hI.2.2.2.2.2 hb⟩
                                  · exact AllStay.cons (Stays.v _) (AllStay.cons (Stays.v _) (AllStay.cons (Stays.v _) (AllStay.cons (Stays.v _) (AllStay.cons (Stays.v _) (AllStay.cons (Stays.v _) (AllStay.cons (Stays.b _ _ _) (AllStay.nil)))))))
                                  · refine Steps.cons (fun a w hS hI hp => ok_on rfl (does_val (x_move rfl (hS.get 11 rfl)) rfl)) ?_
                                    refine Steps.cons (fun a w hS hI hp => ok_on rfl (does_val (x_move rfl (hS.get 13 rfl)) rfl)) ?_
                                    refine Steps.cons (fun a w hS hI hp => ok_on rfl (does_call (by kernel_rfl) (ar2 ((hp.get 0 (by rfl) rfl rfl)) ((hp.get 1 (by rfl) rfl rfl))) ((carillonref04_Get.calls k _ _ l0 a2 t24_1 t24_2 t24_3 _ (Kd.C_below HR0 hI.1) HC0 At24).mono fun _ _ h => ⟨_, h.1, h.2, rfl⟩))) ?_
                                    refine Steps.cons (fun a w hS hI hp => ok_on rfl (does_val (x_move rfl ((hp.get 2 (by rfl) rfl rfl))) rfl)) ?_
                                    refine Steps.cons (fun a w hS hI hp => ok_on rfl (does_val (x_extract rfl ((hp.get 3 (by rfl) rfl rfl)) rfl) rfl)) ?_
                                    refine Steps.cons (fun a w hS hI hp => ok_on rfl (does_val (x_extract rfl ((hp.get 3 (by rfl) rfl rfl)) rfl) rfl)) ?_
                                    refine Steps.cons (fun a w hS hI hp => ok_on rfl (does_var (x_alloc rfl (by kernel_rfl)) (hI.2.2.2.2.2).size)) ?_
                                    exact Steps.nil
                                  clear hS
                                  intro at25 w26 hS hI hp
                                  have hBw26_w := hI.1
                                  have hBw26_w3 := hI.2.1
                                  have hBw26_w10 := hI.2.2.1
                                  have hBw26_w15 := hI.2.2.2.1
                                  have hBw26_w21 := hI.2.2.2.2.1
                                  have hBw26_w22 := hI.2.2.2.2.2
                                  have hv33 : sl _ 33 = .agg #[.int .u64 t24_1, .int .i64 t24_2] := hp 4 (by decide)
                                  have hv34 : sl _ 34 = .bool t24_3 := hp 5 (by decide)
                                  obtain ⟨g27, hv10, hgeg27, hbxg27⟩ := (show IsB _ 31 _ (sl _ 10) _ from hp 6 (by decide))
                                  have hBw26_w26 := Below.refl w26.heap.size w26
                                  have hS := hS.cons hv33
                                  have hS := hS.cons hv34
                                  have hS := hS.cons hv10
                                  clear hp hI hv33 hv34 hv10
                                  show wpList _ _ _ [_, _] _ _
                                  refine list_step rfl (does_store (g := g27) (off := 0) (v := .agg #[.int .u64 t24_1, .int .i64 t24_2]) (new := #[.int .u64 t24_1, .int .i64 t24_2]) rfl (hS.get 0 rfl) (hS.get 2 rfl) ((hBw26_w26.block g27 (blk_lt hbxg27)).trans hbxg27) (by kernel_rfl) (Nat.le_of_ble_eq_true rfl) (by simp [Value.cells, Value.oneCell']) rfl) ?_
                                  rintro vw28 w28 ⟨rfl, hbxw28, hT⟩
                                  have hBw28_w := hT.below hBw26_w (Nat.le_trans (hBw22_w).size hgeg27) (hBw26_w).size
                                  have hBw28_w3 := hT.below hBw26_w3 (Nat.le_trans (hBw22_w3).size hgeg27) (hBw26_w3).size
                                  have hBw28_w10 := hT.below hBw26_w10 (Nat.le_trans (hBw22_w10).size hgeg27) (hBw26_w10).size
                                  have hBw28_w15 := hT.below hBw26_w15 (Nat.le_trans (hBw22_w15).size hgeg27) (hBw26_w15).size
                                  have hBw28_w21 := hT.below hBw26_w21 (Nat.le_trans (hBw22_w21).size hgeg27) (hBw26_w21).size
                                  have hBw28_w22 := hT.below hBw26_w22 hgeg27 (hBw26_w22).size
                                  have hBw28_w28 := Below.refl w28.heap.size w28
                                  clear hT
                                  refine list_step rfl (R := fun v w' => Below _ _ w' ∧ (IsV (.bool t24_3)) v w') (does_val (x_assign rfl (hS.get 1 rfl)) rfl) ?_
                                  rintro vw29 w29 ⟨hb, he⟩
                                  have hBw29_w := below_step hBw28_w hb
                                  have hBw29_w3 := below_step hBw28_w3 hb
                                  have hBw29_w10 := below_step hBw28_w10 hb
                                  have hBw29_w15 := below_step hBw28_w15 hb
                                  have hBw29_w21 := below_step hBw28_w21 hb
                                  have hBw29_w22 := below_step hBw28_w22 hb
                                  have hBw29_w28 := below_step hBw28_w28 hb
                                  have hBw29_w29 := Below.refl w29.heap.size w29
                                  obtain rfl : vw29 = .bool t24_3 := he
                                  replace hS := hS.put (v := .bool t24_3) (d := 11) (by decide) (by rfl)
                                  refine wpList_nil ?_
                                  refine hK23 _ _ ?_
                                  clear hK23 K23
                                  refine wp_seq_k (fun K30 hK30 => ?_)
                                  refine reg_seq (N := 99) (bs := [(11, .bool t24_3), (10, .pointer (some ⟨g27, 0, none⟩)), (34, .bool t24_3), (33, .agg #[.int .u64 t24_1, .int .i64 t24_2]), (9, .bool t17_3), (8, .pointer (some ⟨g20, 0, none⟩)), (28, .bool t17_3), (27, .agg #[.int .u64 t17_1, .int .i64 t17_2]), (7, .slice A11 (((l0 ++ [99] : List Int).take ((l0.length : Int) : Int).toNat).length) C11), (22, .slice A11 (((l0 ++ [99] : List Int).take ((l0.length : Int) : Int).toNat).length) C11), (21, .int .i64 (l0.length : Int)), (20, .slice A0 l0.length c0), (19, .slice A11 ((l0 ++ [99] : List Int).length) C11), (6, .bool false), (4, .pointer (some ⟨g4, 0, none⟩)), (0, .slice A0 l0.length c0), (1, .agg #[.int .u64 a1_0, .int .i64 a1_1]), (2, .int .i64 a2)]) (I := fun x => Below w.heap.size w x ∧ Below w3.heap.size w3 x ∧ Below w10.heap.size w10 x ∧ Below w15.heap.size w15 x ∧ Below w21.heap.size w21 x ∧ Below w22.heap.size w22 x ∧ Below w28.heap.size w28 x ∧ Below w29.heap.size w29 x) (ps := [IsV (.slice A0 l0.length c0), IsR (Kd.int .u8) 5 w29.heap.size t31, IsV (.tuple #[.int .u64 t32_1, .bool t32_2]), IsV (.tuple #[.int .u64 t32_1, .bool t32_2]), IsV (.int .u64 t32_1), IsV (.bool t32_2), IsV (.int .u64 t32_1), IsV (.bool t32_2)]) (by kernel_rfl) ?_ ?_ rfl hS ⟨hBw29_w, hBw29_w3, hBw29_w10, hBw29_w15, hBw29_w21, hBw29_w22, hBw29_w28, hBw29_w29⟩ ?_ ?_
                                  · exact fun x y hI hb => ⟨below_step hI.1 hb, below_step hI.2.1 hb, below_step hI.2.2.1 hb, below_step hI.2.2.2.1 hb, below_step hI.2.2.2.2.1 hb, below_step hI.2.2.2.2.2.1 hb, below_step hI.2.2.2.2.2.2.1 hb, below_step hI.2.2.2.2.2.2.2 hb⟩
                                  · exact AllStay.cons (Stays.v _) (AllStay.cons (Stays.r _ _ _ _) (AllStay.cons (Stays.v _) (AllStay.cons (Stays.v _) (AllStay.cons (Stays.v _) (AllStay.cons (Stays.v _) (AllStay.cons (Stays.v _) (AllStay.cons (Stays.v _) (AllStay.nil))))))))
                                  · refine Steps.cons (fun a w hS hI hp => ok_on rfl (does_val (x_move rfl (hS.get 15 rfl)) rfl)) ?_
                                    refine Steps.cons (fun a w hS hI hp => ok_on rfl (does_call (by kernel_rfl) (ar1 ((hp.get 0 (by rfl) rfl rfl))) ((carillonlaw00_Bytes.calls _ _ l0 t31 _ (Kd.C_below HR0 hI.1) HC0 At31).mono fun _ _ h => h.elim fun v0 h => ⟨v0, h.1, h.2.2, Kd.R_lower h.2.1 hI.2.2.2.2.2.2.2.size⟩))) ?_
                                    refine Steps.cons (fun a w hS hI hp => ok_on rfl ((IsC.of_r ((hp.get 1 (by rfl) rfl rfl))).elim fun A_ h_ => h_.elim fun c_ h_ => h_.elim fun hv_ h_ => h_.elim fun hl_ hc_ => does_call (by kernel_rfl) (ar1 (hv_)) ((ident_FromMac.calls k _ _ t31 t32_1 t32_2 _ hc_ hl_ At32).mono fun _ _ h => ⟨_, h.1, h.2, rfl⟩))) ?_
                                    refine Steps.cons (fun a w hS hI hp => ok_on rfl (does_val (x_move rfl ((hp.get 2 (by rfl) rfl rfl))) rfl)) ?_
                                    refine Steps.cons (fun a w hS hI hp => ok_on rfl (does_val (x_extract rfl ((hp.get 3 (by rfl) rfl rfl)) rfl) rfl)) ?_
                                    refine Steps.cons (fun a w hS hI hp => ok_on rfl (does_val (x_extract rfl ((hp.get 3 (by rfl) rfl rfl)) rfl) rfl)) ?_
                                    refine Steps.cons (fun a w hS hI hp => ok_on rfl (does_val (x_assign rfl ((hp.get 4 (by rfl) rfl rfl))) rfl)) ?_
                                    refine Steps.cons (fun a w hS hI hp => ok_on rfl (does_val (x_assign rfl ((hp.get 5 (by rfl) rfl rfl))) rfl)) ?_
                                    exact Steps.nil
                                  clear hS
                                  intro at33 w34 hS hI hp
                                  have hBw34_w := hI.1
                                  have hBw34_w3 := hI.2.1
                                  have hBw34_w10 := hI.2.2.1
                                  have hBw34_w15 := hI.2.2.2.1
                                  have hBw34_w21 := hI.2.2.2.2.1
                                  have hBw34_w22 := hI.2.2.2.2.2.1
                                  have hBw34_w28 := hI.2.2.2.2.2.2.1
                                  have hBw34_w29 := hI.2.2.2.2.2.2.2
                                  have hv12 : sl _ 12 = .int .u64 t32_1 := hp 6 (by decide)
                                  have hv13 : sl _ 13 = .bool t32_2 := hp 7 (by decide)
                                  have hBw34_w34 := Below.refl w34.heap.size w34
                                  have hS := hS.cons hv12
                                  have hS := hS.cons hv13
                                  clear hp hI hv12 hv13
                                  refine hK30 _ _ ?_
                                  clear hK30 K30
                                  refine wp_seq_k (fun K35 hK35 => ?_)
                                  refine reg_seq (N := 99) (bs := [(13, .bool t32_2), (12, .int .u64 t32_1), (11, .bool t24_3), (10, .pointer (some ⟨g27, 0, none⟩)), (34, .bool t24_3), (33, .agg #[.int .u64 t24_1, .int .i64 t24_2]), (9, .bool t17_3), (8, .pointer (some ⟨g20, 0, none⟩)), (28, .bool t17_3), (27, .agg #[.int .u64 t17_1, .int .i64 t17_2]), (7, .slice A11 (((l0 ++ [99] : List Int).take ((l0.length : Int) : Int).toNat).length) C11), (22, .slice A11 (((l0 ++ [99] : List Int).take ((l0.length : Int) : Int).toNat).length) C11), (21, .int .i64 (l0.length : Int)), (20, .slice A0 l0.length c0), (19, .slice A11 ((l0 ++ [99] : List Int).length) C11), (6, .bool false), (4, .pointer (some ⟨g4, 0, none⟩)), (0, .slice A0 l0.length c0), (1, .agg #[.int .u64 a1_0, .int .i64 a1_1]), (2, .int .i64 a2)]) (I := fun x => Below w.heap.size w x ∧ Below w3.heap.size w3 x ∧ Below w10.heap.size w10 x ∧ Below w15.heap.size w15 x ∧ Below w21.heap.size w21 x ∧ Below w22.heap.size w22 x ∧ Below w28.heap.size w28 x ∧ Below w34.heap.size w34 x) (ps := [IsV (.slice A0 l0.length c0), IsV (.tuple #[.int .u64 t36_1, .bool t36_2]), IsV (.tuple #[.int .u64 t36_1, .bool t36_2]), IsV (.int .u64 t36_1), IsV (.bool t36_2), IsV (.int .u64 t36_1), IsV (.bool t36_2)]) (by kernel_rfl) ?_ ?_ rfl hS ⟨hBw34_w, hBw34_w3, hBw34_w10, hBw34_w15, hBw34_w21, hBw34_w22, hBw34_w28, hBw34_w34⟩ ?_ ?_
                                  · exact fun x y hI hb => ⟨below_step hI.1 hb, below_step hI.2.1 hb, below_step hI.2.2.1 hb, below_step hI.2.2.2.1 hb, below_step hI.2.2.2.2.1 hb, below_step hI.2.2.2.2.2.1 hb, below_step hI.2.2.2.2.2.2.1 hb, below_step hI.2.2.2.2.2.2.2 hb⟩
                                  · exact AllStay.cons (Stays.v _) (AllStay.cons (Stays.v _) (AllStay.cons (Stays.v _) (AllStay.cons (Stays.v _) (AllStay.cons (Stays.v _) (AllStay.cons (Stays.v _) (AllStay.cons (Stays.v _) (AllStay.nil)))))))
                                  · refine Steps.cons (fun a w hS hI hp => ok_on rfl (does_val (x_move rfl (hS.get 17 rfl)) rfl)) ?_
                                    refine Steps.cons (fun a w hS hI hp => ok_on rfl (does_call (by kernel_rfl) (ar1 ((hp.get 0 (by rfl) rfl rfl))) ((carillonref04_FromMac.calls k _ _ l0 t36_1 t36_2 _ (Kd.C_below HR0 hI.1) HC0 At36).mono fun _ _ h => ⟨_, h.1, h.2, rfl⟩))) ?_
                                    refine Steps.cons (fun a w hS hI hp => ok_on rfl (does_val (x_move rfl ((hp.get 1 (by rfl) rfl rfl))) rfl)) ?_
                                    refine Steps.cons (fun a w hS hI hp => ok_on rfl (does_val (x_extract rfl ((hp.get 2 (by rfl) rfl rfl)) rfl) rfl)) ?_
                                    refine Steps.cons (fun a w hS hI hp => ok_on rfl (does_val (x_extract rfl ((hp.get 2 (by rfl) rfl rfl)) rfl) rfl)) ?_
                                    refine Steps.cons (fun a w hS hI hp => ok_on rfl (does_val (x_assign rfl ((hp.get 3 (by rfl) rfl rfl))) rfl)) ?_
                                    refine Steps.cons (fun a w hS hI hp => ok_on rfl (does_val (x_assign rfl ((hp.get 4 (by rfl) rfl rfl))) rfl)) ?_
                                    exact Steps.nil
                                  clear hS
                                  intro at37 w38 hS hI hp
                                  have hBw38_w := hI.1
                                  have hBw38_w3 := hI.2.1
                                  have hBw38_w10 := hI.2.2.1
                                  have hBw38_w15 := hI.2.2.2.1
                                  have hBw38_w21 := hI.2.2.2.2.1
                                  have hBw38_w22 := hI.2.2.2.2.2.1
                                  have hBw38_w28 := hI.2.2.2.2.2.2.1
                                  have hBw38_w34 := hI.2.2.2.2.2.2.2
                                  have hv14 : sl _ 14 = .int .u64 t36_1 := hp 5 (by decide)
                                  have hv15 : sl _ 15 = .bool t36_2 := hp 6 (by decide)
                                  have hBw38_w38 := Below.refl w38.heap.size w38
                                  have hS := hS.cons hv14
                                  have hS := hS.cons hv15
                                  clear hp hI hv14 hv15
                                  refine hK35 _ _ ?_
                                  clear hK35 K35
                                  refine wp_seq_k (fun K39 hK39 => ?_)
                                  replace hS := (((((((((((((((((((((hS.nil).cons (hS.get 21 rfl)).cons (hS.get 20 rfl)).cons (hS.get 19 rfl)).cons (hS.get 18 rfl)).cons (hS.get 16 rfl)).cons (hS.get 15 rfl)).cons (hS.get 14 rfl)).cons (hS.get 13 rfl)).cons (hS.get 12 rfl)).cons (hS.get 11 rfl)).cons (hS.get 10 rfl)).cons (hS.get 9 rfl)).cons (hS.get 8 rfl)).cons (hS.get 7 rfl)).cons (hS.get 6 rfl)).cons (hS.get 5 rfl)).cons (hS.get 4 rfl)).cons (hS.get 3 rfl)).cons (hS.get 2 rfl)).cons (hS.get 1 rfl)).cons (hS.get 0 rfl)
                                  refine reg_any (N := 99) (bs := [(15, .bool t36_2), (14, .int .u64 t36_1), (13, .bool t32_2), (12, .int .u64 t32_1), (11, .bool t24_3), (10, .pointer (some ⟨g27, 0, none⟩)), (34, .bool t24_3), (33, .agg #[.int .u64 t24_1, .int .i64 t24_2]), (9, .bool t17_3), (8, .pointer (some ⟨g20, 0, none⟩)), (28, .bool t17_3), (27, .agg #[.int .u64 t17_1, .int .i64 t17_2]), (7, .slice A11 (((l0 ++ [99] : List Int).take ((l0.length : Int) : Int).toNat).length) C11), (22, .slice A11 (((l0 ++ [99] : List Int).take ((l0.length : Int) : Int).toNat).length) C11), (21, .int .i64 (l0.length : Int)), (20, .slice A0 l0.length c0), (19, .slice A11 ((l0 ++ [99] : List Int).length) C11), (4, .pointer (some ⟨g4, 0, none⟩)), (0, .slice A0 l0.length c0), (1, .agg #[.int .u64 a1_0, .int .i64 a1_1]), (2, .int .i64 a2)]) (I := fun x => Below w.heap.size w x ∧ Below w3.heap.size w3 x ∧ Below w10.heap.size w10 x ∧ Below w15.heap.size w15 x ∧ Below w21.heap.size w21 x ∧ Below w22.heap.size w22 x ∧ Below w28.heap.size w28 x ∧ Below w38.heap.size w38 x) (ps := [IsV (.slice A11 (((l0 ++ [99] : List Int).take ((l0.length : Int) : Int).toNat).length) C11), IsV (.agg #[.int .u64 a1_0, .int .i64 a1_1]), IsR (Kd.int .u8) 5 w38.heap.size t40, IsV (.string (strOfNums t40)), IsV (.slice A0 l0.length c0), IsV (.string (strOfNums l0)), IsV (.agg #[.int .u64 a1_0, .int .i64 a1_1]), IsR (Kd.int .u8) 5 w38.heap.size t41, IsV (.string (strOfNums t41)), IsV (.string ((strOfNums l0) ++ (strOfNums t41))), IsV (.bool ((strOfNums t40).toList == ((strOfNums l0) ++ (strOfNums t41)).toList)), IsV (.bool ((strOfNums t40).toList == ((strOfNums l0) ++ (strOfNums t41)).toList)), IsV (.agg #[.int .u64 a1_0, .int .i64 a1_1]), IsV (.bool t42), IsV (.agg #[.int .u64 a1_0, .int .i64 a1_1]), IsV (.bool t43), IsV (.bool (t42 == t43)), IsV (.bool (t42 == t43)), IsV (.bool (t42 == t43)), IsV (.agg #[.int .u64 t17_1, .int .i64 t17_2]), IsV (.agg #[.int .u64 t24_1, .int .i64 t24_2]), IsV (.bool ((t17_1 == t24_1) && (t17_2 == t24_2))), IsV (.bool ((t17_1 == t24_1) && (t17_2 == t24_2))), IsV (.bool ((t17_1 == t24_1) && (t17_2 == t24_2))), IsV (.bool t17_3), IsV (.bool t24_3), IsV (.bool (t17_3 == t24_3)), IsV (.bool (t17_3 == t24_3)), IsV (.bool (t17_3 == t24_3)), IsV (.int .u64 t32_1), IsV (.int .u64 t36_1), IsV (.bool (decide (t32_1 = t36_1))), IsV (.bool (decide (t32_1 = t36_1))), IsV (.bool (decide (t32_1 = t36_1))), IsV (.bool t32_2), IsV (.bool t36_2), IsV (.bool (t32_2 == t36_2)), IsV (.bool (t32_2 == t36_2)), IsV (.bool (t32_2 == t36_2)), IsV (.slice A11 (((l0 ++ [99] : List Int).take ((l0.length : Int) : Int).toNat).length) C11), IsV (.slice A0 l0.length c0), IsV (.int .i64 (l0.length : Int)), IsV (.int .i64 (wrap64 ((l0.length : Int) + 1))), IsV (.slice A11 (((l0 ++ [99] : List Int).take (wrap64 ((l0.length : Int) + 1) : Int).toNat).length) C11), IsV (.slice A0 l0.length c0), IsV (.int .i64 (l0.length : Int)), IsA (.int .u8 (rd (l0 ++ [99] : List Int) (l0.length : Int))), IsV (.int .u8 (rd (l0 ++ [99] : List Int) (l0.length : Int))), IsV (.bool (decide ((rd (l0 ++ [99] : List Int) (l0.length : Int)) = 99))), IsV (.bool (decide ((rd (l0 ++ [99] : List Int) (l0.length : Int)) = 99))), IsV (.bool (decide ((rd (l0 ++ [99] : List Int) (l0.length : Int)) = 99))), IsV (.bool t44), IsV (.bool t44), IsV (.bool t44)]) (by kernel_rfl) (by kernel_rfl) ?_ ?_ rfl hS ⟨hBw38_w, hBw38_w3, hBw38_w10, hBw38_w15, hBw38_w21, hBw38_w22, hBw38_w28, hBw38_w38⟩ ?_ ?_
                                  · exact fun x y hI hb => ⟨below_step hI.1 hb, below_step hI.2.1 hb, below_step hI.2.2.1 hb, below_step hI.2.2.2.1 hb, below_step hI.2.2.2.2.1 hb, below_step hI.2.2.2.2.2.1 hb, below_step hI.2.2.2.2.2.2.1 hb, below_step hI.2.2.2.2.2.2.2 hb⟩
                                  · exact AllStay.cons (Stays.v _) (AllStay.cons (Stays.v _) (AllStay.cons (Stays.r _ _ _ _) (AllStay.cons (Stays.v _) (AllStay.cons (Stays.v _) (AllStay.cons (Stays.v _) (AllStay.cons (Stays.v _) (AllStay.cons (Stays.r _ _ _ _) (AllStay.cons (Stays.v _) (AllStay.cons (Stays.v _) (AllStay.cons (Stays.v _) (AllStay.cons (Stays.v _) (AllStay.cons (Stays.v _) (AllStay.cons (Stays.v _) (AllStay.cons (Stays.v _) (AllStay.cons (Stays.v _) (AllStay.cons (Stays.v _) (AllStay.cons (Stays.v _) (AllStay.cons (Stays.v _) (AllStay.cons (Stays.v _) (AllStay.cons (Stays.v _) (AllStay.cons (Stays.v _) (AllStay.cons (Stays.v _) (AllStay.cons (Stays.v _) (AllStay.cons (Stays.v _) (AllStay.cons (Stays.v _) (AllStay.cons (Stays.v _) (AllStay.cons (Stays.v _) (AllStay.cons (Stays.v _) (AllStay.cons (Stays.v _) (AllStay.cons (Stays.v _) (AllStay.cons (Stays.v _) (AllStay.cons (Stays.v _) (AllStay.cons (Stays.v _) (AllStay.cons (Stays.v _) (AllStay.cons (Stays.v _) (AllStay.cons (Stays.v _) (AllStay.cons (Stays.v _) (AllStay.cons (Stays.v _) (AllStay.cons (Stays.v _) (AllStay.cons (Stays.v _) (AllStay.cons (Stays.v _) (AllStay.cons (Stays.v _) (AllStay.cons (Stays.v _) (AllStay.cons (Stays.v _) (AllStay.cons (Stays.v _) (AllStay.cons (Stays.a _) (AllStay.cons (Stays.v _) (AllStay.cons (Stays.v _) (AllStay.cons (Stays.v _) (AllStay.cons (Stays.v _) (AllStay.cons (Stays.v _) (AllStay.cons (Stays.v _) (AllStay.cons (Stays.v _) (AllStay.nil))))))))))))))))))))))))))))))))))))))))))))))))))))))
                                  · refine Steps.cons (fun a w hS hI hp => ok_on rfl (does_val (x_move rfl (hS.get 12 rfl)) rfl)) ?_
                                    refine Steps.cons (fun a w hS hI hp => ok_on rfl (does_loadrow rfl (hS.get 17 rfl) (((hI.2.1).block g4 (blk_lt hbxg4)).trans hbxg4) Try.underlying31 rfl (by kernel_rfl) rfl)) ?_
                                    refine Steps.cons (fun a w hS hI hp => ok_on rfl (does_call (by kernel_rfl) (ar2 ((hp.get 0 (by rfl) rfl rfl)) ((hp.get 1 (by rfl) rfl rfl))) ((ident_Put.calls _ _ ((l0 ++ [99] : List Int).take ((l0.length : Int) : Int).toNat) a1_0 a1_1 t40 _ (Kd.C_take (m := ((l0.length : Int) : Int).toNat) (Kd.C_below hc11 hI.2.2.1) (by have := c4; omega)) (Nat.le_trans (List.length_take_le' _ _) hl11) At40).mono fun _ _ h => h.elim fun v0 h => ⟨v0, h.1, h.2.2, Kd.R_lower h.2.1 hI.2.2.2.2.2.2.2.size⟩))) ?_
                                    refine Steps.cons (fun a w hS hI hp => ok_on rfl ((IsC.of_r ((hp.get 2 (by rfl) rfl rfl))).elim fun A_ h_ => h_.elim fun c_ h_ => h_.elim fun hv_ h_ => h_.elim fun hl_ hc_ => does_val (x_conv rfl hv_ (Kd.C_string (by kernel_rfl) (e := 5) (by kernel_rfl) (by kernel_rfl) hc_)) rfl)) ?_
                                    refine Steps.cons (fun a w hS hI hp => ok_on rfl (does_val (x_move rfl (hS.get 18 rfl)) rfl)) ?_
                                    refine Steps.cons (fun a w hS hI hp => ok_on rfl (does_val (x_conv rfl ((hp.get 4 (by rfl) rfl rfl)) (Kd.C_string (by kernel_rfl) (e := 5) (by kernel_rfl) (by kernel_rfl) (Kd.C_below HR0 hI.1))) rfl)) ?_
                                    refine Steps.cons (fun a w hS hI hp => ok_on rfl (does_loadrow rfl (hS.get 17 rfl) (((hI.2.1).block g4 (blk_lt hbxg4)).trans hbxg4) Try.underlying31 rfl (by kernel_rfl) rfl)) ?_
                                    refine Steps.cons (fun a w hS hI hp => ok_on rfl (does_call (by kernel_rfl) (ar1 ((hp.get 6 (by rfl) rfl rfl))) ((carillonref04_Put.calls k a1_0 a1_1 t41 _  At41).mono fun _ _ h => h.elim fun v0 h => ⟨v0, h.1, h.2.2, Kd.R_lower h.2.1 hI.2.2.2.2.2.2.2.size⟩))) ?_
                                    refine Steps.cons (fun a w hS hI hp => ok_on rfl ((IsC.of_r ((hp.get 7 (by rfl) rfl rfl))).elim fun A_ h_ => h_.elim fun c_ h_ => h_.elim fun hv_ h_ => h_.elim fun hl_ hc_ => does_val (x_conv rfl hv_ (Kd.C_string (by kernel_rfl) (e := 5) (by kernel_rfl) (by kernel_rfl) hc_)) rfl)) ?_
                                    refine Steps.cons (fun a w hS hI hp => ok_on rfl (does_val (x_bin rfl ((hp.get 5 (by rfl) rfl rfl)) ((hp.get 8 (by rfl) rfl rfl)) (b_adds _ _ _ _ _ c5)) rfl)) ?_
                                    refine Steps.cons (fun a w hS hI hp => ok_on rfl (does_val (x_bin rfl ((hp.get 3 (by rfl) rfl rfl)) ((hp.get 9 (by rfl) rfl rfl)) (b_eqs _ _ _ _ _)) rfl)) ?_
                                    refine Steps.cons (fun a w hS hI hp => ok_on rfl (does_val (x_move rfl ((hp.get 10 (by rfl) rfl rfl))) rfl)) ?_
                                    refine Steps.cons (fun a w hS hI hp => ok_if (d := 57) rfl rfl (by rw [hS.size]; decide) (((hp.get 11 (by rfl) rfl rfl)).trans (bT c6)) (does_loadrow rfl (hS.get 17 rfl) (((hI.2.1).block g4 (blk_lt hbxg4)).trans hbxg4) Try.underlying31 rfl (by kernel_rfl) rfl)) ?_
                                    refine Steps.cons (fun a w hS hI hp => ok_if (d := 57) rfl rfl (by rw [hS.size]; decide) (((hp.get 11 (by rfl) rfl rfl)).trans (bT c6)) (does_call (by kernel_rfl) (ar1 ((hp.get 12 (by rfl) rfl rfl))) ((ident_May.calls a1_0 a1_1 t42 _  At42).mono fun _ _ h => ⟨_, h.1, h.2, rfl⟩))) ?_
                                    refine Steps.cons (fun a w hS hI hp => ok_if (d := 57) rfl rfl (by rw [hS.size]; decide) (((hp.get 11 (by rfl) rfl rfl)).trans (bT c6)) (does_loadrow rfl (hS.get 17 rfl) (((hI.2.1).block g4 (blk_lt hbxg4)).trans hbxg4) Try.underlying31 rfl (by kernel_rfl) rfl)) ?_
                                    refine Steps.cons (fun a w hS hI hp => ok_if (d := 57) rfl rfl (by rw [hS.size]; decide) (((hp.get 11 (by rfl) rfl rfl)).trans (bT c6)) (does_call (by kernel_rfl) (ar1 ((hp.get 14 (by rfl) rfl rfl))) ((carillonref04_May.calls a1_0 a1_1 t43 _  At43).mono fun _ _ h => ⟨_, h.1, h.2, rfl⟩))) ?_
                                    refine Steps.cons (fun a w hS hI hp => ok_if (d := 57) rfl rfl (by rw [hS.size]; decide) (((hp.get 11 (by rfl) rfl rfl)).trans (bT c6)) (does_val (x_bin rfl ((hp.get 13 (by rfl) rfl rfl)) ((hp.get 15 (by rfl) rfl rfl)) (b_eqb _ _ _ _ _ (by kernel_rfl))) rfl)) ?_
                                    refine Steps.cons (fun a w hS hI hp => ok_on rfl (does_val (x_pickT rfl (((hp.get 11 (by rfl) rfl rfl)).trans (bT c6)) ((hp.get 16 (by rfl) rfl rfl))) rfl)) ?_
                                    refine Steps.cons (fun a w hS hI hp => ok_on rfl (does_val (x_move rfl ((hp.get 17 (by rfl) rfl rfl))) rfl)) ?_
                                    refine Steps.cons (fun a w hS hI hp => ok_if (d := 64) rfl rfl (by rw [hS.size]; decide) (((hp.get 18 (by rfl) rfl rfl)).trans (bT c7)) (does_loadrow rfl (hS.get 9 rfl) (((hI.2.2.2.2.1).block g20 (blk_lt hbxw21)).trans hbxw21) Try.underlying31 rfl (by kernel_rfl) rfl)) ?_
                                    refine Steps.cons (fun a w hS hI hp => ok_if (d := 64) rfl rfl (by rw [hS.size]; decide) (((hp.get 18 (by rfl) rfl rfl)).trans (bT c7)) (does_loadrow rfl (hS.get 5 rfl) (((hI.2.2.2.2.2.2.1).block g27 (blk_lt hbxw28)).trans hbxw28) Try.underlying31 rfl (by kernel_rfl) rfl)) ?_
                                    refine Steps.cons (fun a w hS hI hp => ok_if (d := 64) rfl rfl (by rw [hS.size]; decide) (((hp.get 18 (by rfl) rfl rfl)).trans (bT c7)) (does_val (x_bin rfl ((hp.get 19 (by rfl) rfl rfl)) ((hp.get 20 (by rfl) rfl rfl)) (carillonlaw04_IdentBytes.eql31 _ _ _ t17_1 t17_2 t24_1 t24_2)) rfl)) ?_
                                    refine Steps.cons (fun a w hS hI hp => ok_on rfl (does_val (x_pickT rfl (((hp.get 18 (by rfl) rfl rfl)).trans (bT c7)) ((hp.get 21 (by rfl) rfl rfl))) rfl)) ?_
                                    refine Steps.cons (fun a w hS hI hp => ok_on rfl (does_val (x_move rfl ((hp.get 22 (by rfl) rfl rfl))) rfl)) ?_
                                    refine Steps.cons (fun a w hS hI hp => ok_if (d := 69) rfl rfl (by rw [hS.size]; decide) (((hp.get 23 (by rfl) rfl rfl)).trans (bT c8)) (does_val (x_move rfl (hS.get 8 rfl)) rfl)) ?_
                                    refine Steps.cons (fun a w hS hI hp => ok_if (d := 69) rfl rfl (by rw [hS.size]; decide) (((hp.get 23 (by rfl) rfl rfl)).trans (bT c8)) (does_val (x_move rfl (hS.get 4 rfl)) rfl)) ?_
                                    refine Steps.cons (fun a w hS hI hp => ok_if (d := 69) rfl rfl (by rw [hS.size]; decide) (((hp.get 23 (by rfl) rfl rfl)).trans (bT c8)) (does_val (x_bin rfl ((hp.get 24 (by rfl) rfl rfl)) ((hp.get 25 (by rfl) rfl rfl)) (b_eqb _ _ _ _ _ (by kernel_rfl))) rfl)) ?_
                                    refine Steps.cons (fun a w hS hI hp => ok_on rfl (does_val (x_pickT rfl (((hp.get 23 (by rfl) rfl rfl)).trans (bT c8)) ((hp.get 26 (by rfl) rfl rfl))) rfl)) ?_
                                    refine Steps.cons (fun a w hS hI hp => ok_on rfl (does_val (x_move rfl ((hp.get 27 (by rfl) rfl rfl))) rfl)) ?_
                                    refine Steps.cons (fun a w hS hI hp => ok_if (d := 74) rfl rfl (by rw [hS.size]; decide) (((hp.get 28 (by rfl) rfl rfl)).trans (bT c9)) (does_val (x_move rfl (hS.get 3 rfl)) rfl)) ?_
                                    refine Steps.cons (fun a w hS hI hp => ok_if (d := 74) rfl rfl (by rw [hS.size]; decide) (((hp.get 28 (by rfl) rfl rfl)).trans (bT c9)) (does_val (x_move rfl (hS.get 1 rfl)) rfl)) ?_
                                    refine Steps.cons (fun a w hS hI hp => ok_if (d := 74) rfl rfl (by rw [hS.size]; decide) (((hp.get 28 (by rfl) rfl rfl)).trans (bT c9)) (does_val (x_bin rfl ((hp.get 29 (by rfl) rfl rfl)) ((hp.get 30 (by rfl) rfl rfl)) (b_eql _ _ _ _ _ _)) rfl)) ?_
                                    refine Steps.cons (fun a w hS hI hp => ok_on rfl (does_val (x_pickT rfl (((hp.get 28 (by rfl) rfl rfl)).trans (bT c9)) ((hp.get 31 (by rfl) rfl rfl))) rfl)) ?_
                                    refine Steps.cons (fun a w hS hI hp => ok_on rfl (does_val (x_move rfl ((hp.get 32 (by rfl) rfl rfl))) rfl)) ?_
                                    refine Steps.cons (fun a w hS hI hp => ok_if (d := 79) rfl rfl (by rw [hS.size]; decide) (((hp.get 33 (by rfl) rfl rfl)).trans (bT (decide_eq_true c10))) (does_val (x_move rfl (hS.get 2 rfl)) rfl)) ?_
                                    refine Steps.cons (fun a w hS hI hp => ok_if (d := 79) rfl rfl (by rw [hS.size]; decide) (((hp.get 33 (by rfl) rfl rfl)).trans (bT (decide_eq_true c10))) (does_val (x_move rfl (hS.get 0 rfl)) rfl)) ?_
                                    refine Steps.cons (fun a w hS hI hp => ok_if (d := 79) rfl rfl (by rw [hS.size]; decide) (((hp.get 33 (by rfl) rfl rfl)).trans (bT (decide_eq_true c10))) (does_val (x_bin rfl ((hp.get 34 (by rfl) rfl rfl)) ((hp.get 35 (by rfl) rfl rfl)) (b_eqb _ _ _ _ _ (by kernel_rfl))) rfl)) ?_
                                    refine Steps.cons (fun a w hS hI hp => ok_on rfl (does_val (x_pickT rfl (((hp.get 33 (by rfl) rfl rfl)).trans (bT (decide_eq_true c10))) ((hp.get 36 (by rfl) rfl rfl))) rfl)) ?_
                                    refine Steps.cons (fun a w hS hI hp => ok_on rfl (does_val (x_move rfl ((hp.get 37 (by rfl) rfl rfl))) rfl)) ?_
                                    refine Steps.cons (fun a w hS hI hp => ok_if (d := 84) rfl rfl (by rw [hS.size]; decide) (((hp.get 38 (by rfl) rfl rfl)).trans (bT c11)) (does_val (x_move rfl (hS.get 12 rfl)) rfl)) ?_
                                    refine Steps.cons (fun a w hS hI hp => ok_if (d := 84) rfl rfl (by rw [hS.size]; decide) (((hp.get 38 (by rfl) rfl rfl)).trans (bT c11)) (does_val (x_move rfl (hS.get 18 rfl)) rfl)) ?_
                                    refine Steps.cons (fun a w hS hI hp => ok_if (d := 84) rfl rfl (by rw [hS.size]; decide) (((hp.get 38 (by rfl) rfl rfl)).trans (bT c11)) (does_val (x_len (e := 5) rfl (by kernel_rfl) ((hp.get 40 (by rfl) rfl rfl))) rfl)) ?_
                                    refine Steps.cons (fun a w hS hI hp => ok_if (d := 84) rfl rfl (by rw [hS.size]; decide) (((hp.get 38 (by rfl) rfl rfl)).trans (bT c11)) (does_val (x_bin rfl ((hp.get 41 (by rfl) rfl rfl)) (rfl) (b_add _ _ _ _ _)) rfl)) ?_
                                    refine Steps.cons (fun a w hS hI hp => ok_if (d := 84) rfl rfl (by rw [hS.size]; decide) (((hp.get 38 (by rfl) rfl rfl)).trans (bT c11)) (does_val (x_cuthi rfl (e := 5) (xs := (l0 ++ [99] : List Int)) (by kernel_rfl) (by kernel_rfl) ((hp.get 39 (by rfl) rfl rfl)) ((hp.get 42 (by rfl) rfl rfl)) c12 c13 hl11) rfl)) ?_
                                    refine Steps.cons (fun a w hS hI hp => ok_if (d := 84) rfl rfl (by rw [hS.size]; decide) (((hp.get 38 (by rfl) rfl rfl)).trans (bT c11)) (does_val (x_move rfl (hS.get 18 rfl)) rfl)) ?_
                                    refine Steps.cons (fun a w hS hI hp => ok_if (d := 84) rfl rfl (by rw [hS.size]; decide) (((hp.get 38 (by rfl) rfl rfl)).trans (bT c11)) (does_val (x_len (e := 5) rfl (by kernel_rfl) ((hp.get 44 (by rfl) rfl rfl))) rfl)) ?_
                                    refine Steps.cons (fun a w hS hI hp => ok_if (d := 84) rfl rfl (by rw [hS.size]; decide) (((hp.get 38 (by rfl) rfl rfl)).trans (bT c11)) (does_index (e := 5) (xs := (l0 ++ [99] : List Int)) rfl ((hp.get 43 (by rfl) rfl rfl)) ((hp.get 45 (by rfl) rfl rfl)) (by kernel_rfl) (by kernel_rfl) c3 c14 c15 ((Kd.C_below hc11 hI.2.2.1)))) ?_
                                    refine Steps.cons (fun a w hS hI hp => ok_if (d := 84) rfl rfl (by rw [hS.size]; decide) (((hp.get 38 (by rfl) rfl rfl)).trans (bT c11)) (((hp.get 46 (by rfl) rfl rfl)).elim fun _ h_ => does_val (x_load1 (d := .int .u8) rfl h_.1 (by kernel_rfl) rfl h_.2.2) rfl)) ?_
                                    refine Steps.cons (fun a w hS hI hp => ok_if (d := 84) rfl rfl (by rw [hS.size]; decide) (((hp.get 38 (by rfl) rfl rfl)).trans (bT c11)) (does_val (x_bin rfl ((hp.get 47 (by rfl) rfl rfl)) (rfl) (b_eql _ _ _ _ _ _)) rfl)) ?_
                                    refine Steps.cons (fun a w hS hI hp => ok_on rfl (does_val (x_pickT rfl (((hp.get 38 (by rfl) rfl rfl)).trans (bT c11)) ((hp.get 48 (by rfl) rfl rfl))) rfl)) ?_
                                    refine Steps.cons (fun a w hS hI hp => ok_on rfl (does_val (x_move rfl ((hp.get 49 (by rfl) rfl rfl))) rfl)) ?_
                                    refine Steps.cons (fun a w hS hI hp => ok_if (d := 96) rfl rfl (by rw [hS.size]; decide) (((hp.get 50 (by rfl) rfl rfl)).trans (bT (decide_eq_true c16))) (does_call (by kernel_rfl) rfl ((carillonlaw04_awake.calls k  t44 _  At44).mono fun _ _ h => ⟨_, h.1, h.2, rfl⟩))) ?_
                                    refine Steps.cons (fun a w hS hI hp => ok_on rfl (does_val (x_pickT rfl (((hp.get 50 (by rfl) rfl rfl)).trans (bT (decide_eq_true c16))) ((hp.get 51 (by rfl) rfl rfl))) rfl)) ?_
                                    refine Steps.cons (fun a w hS hI hp => ok_on rfl (does_val (x_assign rfl ((hp.get 52 (by rfl) rfl rfl))) rfl)) ?_
                                    exact Steps.nil
                                  clear hS
                                  intro at45 w46 hS hI hp
                                  have hBw46_w := hI.1
                                  have hBw46_w3 := hI.2.1
                                  have hBw46_w10 := hI.2.2.1
                                  have hBw46_w15 := hI.2.2.2.1
                                  have hBw46_w21 := hI.2.2.2.2.1
                                  have hBw46_w22 := hI.2.2.2.2.2.1
                                  have hBw46_w28 := hI.2.2.2.2.2.2.1
                                  have hBw46_w38 := hI.2.2.2.2.2.2.2
                                  have hv6 : sl _ 6 = .bool t44 := hp 53 (by decide)
                                  have hBw46_w46 := Below.refl w46.heap.size w46
                                  have hS := hS.cons hv6
                                  clear hp hI hv6
                                  refine hK39 _ _ ?_
                                  clear hK39 K39
                                  refine wp_ret ?_
                                  (try simp only [Exit.then, Exit.inBlock])
                                  exact bodyPost_ret (v := .bool true) (by rw [results_tmp rfl]; exact congrArg (Result.ok · _) ((hS.get 0 rfl).trans (congrArg Value.bool hret))) hS.nodef ⟨rfl, hBw46_w⟩
                                · rw [if_neg c16] at H
                                  exact absurd H (by simp)
                              · rw [if_neg c15] at H
                                exact absurd H (by simp)
                            · rw [if_neg c14] at H
                              exact absurd H (by simp)
                          · rw [if_neg c13] at H
                            exact absurd H (by simp)
                        · rw [if_neg c12] at H
                          exact absurd H (by simp)
                      · rw [if_neg c11] at H
                        exact absurd H (by simp)
                    · rw [if_neg c10] at H
                      exact absurd H (by simp)
                  · rw [if_neg c9] at H
                    exact absurd H (by simp)
                · rw [if_neg c8] at H
                  exact absurd H (by simp)
              · rw [if_neg c7] at H
                exact absurd H (by simp)
            · rw [if_neg c6] at H
              exact absurd H (by simp)
          · rw [if_neg c5] at H
            exact absurd H (by simp)
        · rw [if_neg c4] at H
          exact absurd H (by simp)
      · rw [if_neg c3] at H
        exact absurd H (by simp)
    · rw [if_neg c2] at H
      exact absurd H (by simp)
  · rw [if_neg c1] at H
    exact absurd H (by simp)

/-- The one pure statement of carillonlaw04_IdentBytes. -/
def carillonlaw04_IdentBytes.Pure : Prop := ∀ (l0 : List Int) (a1_0 : Int) (a1_1 : Int) (a2 : Int), l0.length ≤ maxLen → l0.length * 1 ≤ 140737488351232 → (∀ x ∈ l0, (Lit.int .u8 x).wf = true) → (Lit.int .u64 a1_0).wf = true → (Lit.int .i64 a1_1).wf = true → (Lit.int .i64 a2).wf = true → ∃ k, carillonlaw04_IdentBytes.f k l0 a1_0 a1_1 a2 = some true
theorem carillonlaw04_IdentBytes.walk (P : carillonlaw04_IdentBytes.Pure) (a0 : Option Addr) (len0 cap0 : Nat) (z0 : List Int) (a1_0 : Int) (a1_1 : Int) (a2 : Int) (w : World) (w0 : (a0 = none ∧ len0 = 0 ∧ cap0 = 0 ∧ z0 = []) ∨ ∃ x, a0 = some x ∧ len0 ≤ cap0 ∧ cap0 ≤ maxLen ∧ z0.length = cap0 ∧ (∀ i, i < z0.length → w.cell? (x.add i) = some (.int .u8 (z0.getD i 0))) ∧ ∀ n ∈ z0, (Lit.int .u8 n).wf = true) (y0 : len0 * 1 ≤ 140737488351232) (w1_0 : (Lit.int .u64 a1_0).wf = true) (w1_1 : (Lit.int .i64 a1_1).wf = true) (w2 : (Lit.int .i64 a2).wf = true) :
    Calls Try.prog 5 #[.slice a0 len0 cap0, .agg #[.int .u64 a1_0, .int .i64 a1_1], .int .i64 a2] w fun e w' => e = .returned (.bool true) ∧ Below w.heap.size w w' := by
  obtain ⟨l0, rfl, hr0, hm0, hw0, hc0⟩ := ReadsInt.ofRowC w0
  obtain ⟨k, h⟩ := P l0 a1_0 a1_1 a2 hm0 y0 hw0 w1_0 w1_1 w2
  refine (carillonlaw04_IdentBytes.calls k _ _ l0 a1_0 a1_1 a2 w (Kd.C_of_reads (d := (0 : Int)) (h1 := fun _ => rfl) hr0) hc0 h).mono ?_
  rintro e w' ⟨rfl, hd⟩
  exact ⟨rfl, hd⟩

end Go.Proofs.Ytinlfcfcpolodaa.P
