/- Functions and loops of the given program as Lean functions, and that the code comes to what they say: written by this session's own program; Lean checks it. -/
import Derived.Test.YthdigeknonamaaaPx0
import Derived.Test.YthdigeknonamaaaPx1
import Derived.Test.YthdigeknonamaaaPx2
namespace Go.Proofs.Ythdigeknonamaaa.P
open Go.RowKit Go.Proofs.YthdigeknonamaaaW.PrintWords Go.Proofs.YthdigeknonamaaaW.PrintLast Go.Proofs.YthdigeknonamaaaW.PrintMore
attribute [local go_sem] max2_int min2_int max_two min_two max_three min_three max_four min_four   -- for this text's walks alone
set_option linter.unusedVariables false
set_option linter.unusedSimpArgs false

/-! ### carillonlaw01_OctetsPuts: function 5: by our own printer -/
def carillonlaw01_OctetsPuts.f (k : Nat) (l0 : List Int) (a1 : Int) (a2 : Int) (a3 : Int) : Option (Bool) := if l0.length * 1 ≤ 140737488355328 then (if (l0.length + [99].length) * 1 ≤ 140737488355328 then (if 0 ≤ (l0.length : Int) then (if (l0.length : Int) ≤ ((l0 ++ [99] : List Int).length : Int) then (if 1 ≤ a2 then ((octets_Put.f ((l0 ++ [99] : List Int).take ((l0.length : Int) : Int).toNat) a1 a2).bind fun t16 => ((carillonref01_Put.f k a1 a2).bind fun t17 => (if (strOfNums l0).size + (strOfNums t17).size ≤ 9223372036854775807 then (if ((strOfNums t16).toList == ((strOfNums l0) ++ (strOfNums t17)).toList) = true then ((octets_PutId.f ((l0 ++ [99] : List Int).take ((l0.length : Int) : Int).toNat) a3).bind fun t18 => ((carillonref01_PutId.f k a3).bind fun t19 => (if (strOfNums l0).size + (strOfNums t19).size ≤ 9223372036854775807 then (if ((strOfNums t18).toList == ((strOfNums l0) ++ (strOfNums t19)).toList) = true then (if 0 ≤ (wrap64 ((l0.length : Int) + 1)) then (if (wrap64 ((l0.length : Int) + 1)) ≤ ((l0 ++ [99] : List Int).length : Int) then (if (l0.length : Int) < (((l0 ++ [99] : List Int).take (wrap64 ((l0.length : Int) + 1) : Int).toNat).length : Int) then (if (l0.length : Int) < ((l0 ++ [99] : List Int).length : Int) then (if (rd (l0 ++ [99] : List Int) (l0.length : Int)) = 99 then ((carillonlaw01_awake.f k ).bind fun t20 => (some t20)) else (some false)) else (none)) else (none)) else (none)) else (none)) else (some false)) else (none)))) else (some false)) else (none)))) else ((carillonref01_Put.f k a1 a2).bind fun t16 => (if (strOfNums l0).size + (strOfNums t16).size ≤ 9223372036854775807 then (if ((strOfNums ((l0 ++ [99] : List Int).take ((l0.length : Int) : Int).toNat)).toList == ((strOfNums l0) ++ (strOfNums t16)).toList) = true then ((octets_PutId.f ((l0 ++ [99] : List Int).take ((l0.length : Int) : Int).toNat) a3).bind fun t17 => ((carillonref01_PutId.f k a3).bind fun t18 => (if (strOfNums l0).size + (strOfNums t18).size ≤ 9223372036854775807 then (if ((strOfNums t17).toList == ((strOfNums l0) ++ (strOfNums t18)).toList) = true then (if 0 ≤ (wrap64 ((l0.length : Int) + 1)) then (if (wrap64 ((l0.length : Int) + 1)) ≤ ((l0 ++ [99] : List Int).length : Int) then (if (l0.length : Int) < (((l0 ++ [99] : List Int).take (wrap64 ((l0.length : Int) + 1) : Int).toNat).length : Int) then (if (l0.length : Int) < ((l0 ++ [99] : List Int).length : Int) then (if (rd (l0 ++ [99] : List Int) (l0.length : Int)) = 99 then ((carillonlaw01_awake.f k ).bind fun t19 => (some t19)) else (some false)) else (none)) else (none)) else (none)) else (none)) else (some false)) else (none)))) else (some false)) else (none)))) else (none)) else (none)) else (none)) else (none)
open Go.Proofs.Ythdigeknonamaaa.E in
set_option maxHeartbeats 8000000 in
set_option maxRecDepth 100000 in
theorem carillonlaw01_OctetsPuts.calls (k : Nat) (A0 : Option Addr) (c0 : Nat) (l0 : List Int) (a1 : Int) (a2 : Int) (a3 : Int) (w : World) (HR0 : Kd.C (Kd.int .u8) w A0 l0.length l0) (HC0 : l0.length ≤ c0) (h : carillonlaw01_OctetsPuts.f k l0 a1 a2 a3 = some true) :
    Calls Try.prog 5 #[.slice A0 l0.length c0, .int .i64 a1, .int .i64 a2, .int .u64 a3] w fun e w' => e = .returned (.bool true) ∧ Below w.heap.size w w' := by
  have H := h
  clear h
  unfold carillonlaw01_OctetsPuts.f at H
  by_cases c1 : l0.length * 1 ≤ 140737488355328
  · rw [if_pos c1] at H
    by_cases c2 : (l0.length + [99].length) * 1 ≤ 140737488355328
    · rw [if_pos c2] at H
      by_cases c3 : 0 ≤ (l0.length : Int)
      · rw [if_pos c3] at H
        by_cases c4 : (l0.length : Int) ≤ ((l0 ++ [99] : List Int).length : Int)
        · rw [if_pos c4] at H
          by_cases c5 : 1 ≤ a2
          · rw [if_pos c5] at H
            obtain ⟨t16, At16, H⟩ := Option.bind_eq_some_iff.mp H
            obtain ⟨t17, At17, H⟩ := Option.bind_eq_some_iff.mp H
            by_cases c6 : (strOfNums l0).size + (strOfNums t17).size ≤ 9223372036854775807
            · rw [if_pos c6] at H
              by_cases c7 : ((strOfNums t16).toList == ((strOfNums l0) ++ (strOfNums t17)).toList) = true
              · rw [if_pos c7] at H
                obtain ⟨t18, At18, H⟩ := Option.bind_eq_some_iff.mp H
                obtain ⟨t19, At19, H⟩ := Option.bind_eq_some_iff.mp H
                by_cases c8 : (strOfNums l0).size + (strOfNums t19).size ≤ 9223372036854775807
                · rw [if_pos c8] at H
                  by_cases c9 : ((strOfNums t18).toList == ((strOfNums l0) ++ (strOfNums t19)).toList) = true
                  · rw [if_pos c9] at H
                    by_cases c10 : 0 ≤ (wrap64 ((l0.length : Int) + 1))
                    · rw [if_pos c10] at H
                      by_cases c11 : (wrap64 ((l0.length : Int) + 1)) ≤ ((l0 ++ [99] : List Int).length : Int)
                      · rw [if_pos c11] at H
                        by_cases c12 : (l0.length : Int) < (((l0 ++ [99] : List Int).take (wrap64 ((l0.length : Int) + 1) : Int).toNat).length : Int)
                        · rw [if_pos c12] at H
                          by_cases c13 : (l0.length : Int) < ((l0 ++ [99] : List Int).length : Int)
                          · rw [if_pos c13] at H
                            by_cases c14 : (rd (l0 ++ [99] : List Int) (l0.length : Int)) = 99
                            · rw [if_pos c14] at H
                              obtain ⟨t20, At20, H⟩ := Option.bind_eq_some_iff.mp H
                              have hret := Option.some.inj H
                              clear H
                              refine calls_of_wp (fn := Try.f5) (by kernel_rfl) rfl ?_
                              have hS := St.enter #[.slice A0 l0.length c0, .int .i64 a1, .int .i64 a2, .int .u64 a3] 58 (by simp) [(0, .slice A0 l0.length c0), (1, .int .i64 a1), (2, .int .i64 a2), (3, .int .u64 a3)] (by simp)
                              have HB0 := Below.refl w.heap.size w
                              refine wp_seq_k (fun K1 hK1 => ?_)
                              refine reg_seq (N := 58) (bs := [(0, .slice A0 l0.length c0), (1, .int .i64 a1), (2, .int .i64 a2), (3, .int .u64 a3)]) (I := fun x => Below w.heap.size w x) (ps := [IsV (.bool false)]) (by kernel_rfl) ?_ ?_ rfl hS HB0 ?_ ?_
                              · exact fun x y hI hb => below_step hI hb
                              · exact AllStay.cons (Stays.v _) (AllStay.nil)
                              · refine Steps.cons (fun a w hS hI hp => ok_on rfl (does_val (x_assign rfl (rfl)) rfl)) ?_
                                exact Steps.nil
                              clear hS
                              intro at2 w3 hS hI hp
                              have hBw3_w := hI
                              have hv8 : sl _ 8 = .bool false := hp 0 (by decide)
                              have hBw3_w3 := Below.refl w3.heap.size w3
                              have hS := hS.cons hv8
                              clear hp hI hv8
                              refine hK1 _ _ ?_
                              clear hK1 K1
                              refine wp_seq_k (fun K4 hK4 => ?_)
                              refine reg_seq_tail 3 (N := 58) (bs := [(8, .bool false), (0, .slice A0 l0.length c0), (1, .int .i64 a1), (2, .int .i64 a2), (3, .int .u64 a3)]) (I := fun x => Below w.heap.size w x ∧ Below w3.heap.size w3 x) (ps := [IsV (.slice A0 l0.length c0), IsR (Kd.int .u8) 5 w3.heap.size l0, IsR (Kd.int .u8) 5 w3.heap.size [99]]) (by kernel_rfl) ?_ ?_ rfl hS ⟨hBw3_w, hBw3_w3⟩ ?_ ?_
                              · exact fun x y hI hb => ⟨below_step hI.1 hb, below_step hI.2 hb⟩
                              · exact AllStay.cons (Stays.v _) (AllStay.cons (Stays.r _ _ _ _) (AllStay.cons (Stays.r _ _ _ _) (AllStay.nil)))
                              · refine Steps.cons (fun a w hS hI hp => ok_on rfl (does_val (x_move rfl (hS.get 1 rfl)) rfl)) ?_
                                refine Steps.cons (fun a w hS hI hp => ok_on rfl (does_copy w3.heap.size _ (.tmp 10) 24 5 1 rfl (by kernel_rfl) (by kernel_rfl) (by decide) l0 _ _ (rfl) ((hp.get 0 (by rfl) rfl rfl)) ((Kd.C_below HR0 hI.1)) (hI.2).size c1)) ?_
                                refine Steps.cons (fun a w hS hI hp => ok_on rfl (does_lit w3.heap.size 24 5 1 _ [(0, .int .u8 99)] [99] rfl (by kernel_rfl) (by rw [Array.toList_map]; exact (show [(0, a.eval (.const (.int .u8 99)))] = _ from (li_cons (rfl) rfl))) (by kernel_rfl) rfl (hI.2).size (Nat.le_of_ble_eq_true rfl))) ?_
                                exact Steps.nil
                              clear hS
                              intro at5 w6 hS hI hp
                              have hBw6_w := hI.1
                              have hBw6_w3 := hI.2
                              obtain ⟨A7, C7, hv11, hl7, hc7⟩ := Kd.R_reads (show Kd.R (Kd.int .u8) 5 w6 w3.heap.size (fun _ => True) (sl _ 11) l0 from hp 1 (by decide))
                              have ho7 : Kd.R (Kd.int .u8) 5 w6 w3.heap.size (fun _ => True) (.slice A7 l0.length C7) l0 := hv11 ▸ (hp 1 (by decide))
                              obtain ⟨A8, C8, hv12, hl8, hc8⟩ := Kd.R_reads (show Kd.R (Kd.int .u8) 5 w6 w3.heap.size (fun _ => True) (sl _ 12) [99] from hp 2 (by decide))
                              have ho8 : Kd.R (Kd.int .u8) 5 w6 w3.heap.size (fun _ => True) (.slice A8 [99].length C8) [99] := hv12 ▸ (hp 2 (by decide))
                              have hBw6_w6 := Below.refl w6.heap.size w6
                              have hS := hS.cons hv11
                              have hS := hS.cons hv12
                              clear hp hI hv11 hv12
                              show wpList _ _ _ [_, _, _, _, _] _ _
                              refine list_step rfl (does_more (W := w3) (.tmp 11) (.tmp 12) 24 5 1 rfl (by kernel_rfl) (by kernel_rfl) (by decide) _ l0 [99] _ _ (hS.get 1 rfl) (hS.get 0 rfl) (Kd.R_below ho7 hBw6_w6) (Kd.C_below hc8 hBw6_w6) hBw6_w3 c2) ?_
                              rintro vw9 w9 ⟨hb, hr⟩
                              have hBw9_w := below_step hBw3_w hb
                              have hBw9_w3 := hb
                              replace hS := (((((hS.nil).cons (hS.get 6 rfl)).cons (hS.get 5 rfl)).cons (hS.get 4 rfl)).cons (hS.get 3 rfl)).cons (hS.get 2 rfl)
                              have hBw9_w9 := Below.refl w9.heap.size w9
                              obtain ⟨A10, C10, rfl, hl10, hc10⟩ := Kd.R_reads hr
                              have hr10 := hr
                              clear hr
                              replace hS := hS.put (v := .slice A10 ((l0 ++ [99] : List Int).length) C10) (d := 13) (by decide) (by rfl)
                              refine list_step rfl (R := fun v w' => Below _ _ w' ∧ (IsV (.slice A0 l0.length c0)) v w') (does_val (x_move rfl (hS.get 2 rfl)) rfl) ?_
                              rintro vw11 w11 ⟨hb, he⟩
                              have hBw11_w := below_step hBw9_w hb
                              have hBw11_w3 := below_step hBw9_w3 hb
                              have hBw11_w9 := below_step hBw9_w9 hb
                              have hBw11_w11 := Below.refl w11.heap.size w11
                              obtain rfl : vw11 = .slice A0 l0.length c0 := he
                              replace hS := hS.put (v := .slice A0 l0.length c0) (d := 14) (by decide) (by rfl)
                              refine list_step rfl (R := fun v w' => Below _ _ w' ∧ (IsV (.int .i64 (l0.length : Int))) v w') (does_val (x_len (e := 5) rfl (by kernel_rfl) (hS.get 0 rfl)) rfl) ?_
                              rintro vw12 w12 ⟨hb, he⟩
                              have hBw12_w := below_step hBw11_w hb
                              have hBw12_w3 := below_step hBw11_w3 hb
                              have hBw12_w9 := below_step hBw11_w9 hb
                              have hBw12_w11 := below_step hBw11_w11 hb
                              have hBw12_w12 := Below.refl w12.heap.size w12
                              obtain rfl : vw12 = .int .i64 (l0.length : Int) := he
                              replace hS := hS.put (v := .int .i64 (l0.length : Int)) (d := 15) (by decide) (by rfl)
                              refine list_step rfl (R := fun v w' => Below _ _ w' ∧ (IsV (.slice A10 (((l0 ++ [99] : List Int).take ((l0.length : Int) : Int).toNat).length) C10)) v w') (does_val (x_cuthi rfl (e := 5) (xs := (l0 ++ [99] : List Int)) (by kernel_rfl) (by kernel_rfl) (hS.get 2 rfl) (hS.get 0 rfl) c3 c4 hl10) rfl) ?_
                              rintro vw13 w13 ⟨hb, he⟩
                              have hBw13_w := below_step hBw12_w hb
                              have hBw13_w3 := below_step hBw12_w3 hb
                              have hBw13_w9 := below_step hBw12_w9 hb
                              have hBw13_w12 := below_step hBw12_w12 hb
                              have hBw13_w13 := Below.refl w13.heap.size w13
                              obtain rfl : vw13 = .slice A10 (((l0 ++ [99] : List Int).take ((l0.length : Int) : Int).toNat).length) C10 := he
                              replace hS := hS.put (v := .slice A10 (((l0 ++ [99] : List Int).take ((l0.length : Int) : Int).toNat).length) C10) (d := 16) (by decide) (by rfl)
                              refine list_step rfl (R := fun v w' => Below _ _ w' ∧ (IsV (.slice A10 (((l0 ++ [99] : List Int).take ((l0.length : Int) : Int).toNat).length) C10)) v w') (does_val (x_assign rfl (hS.get 0 rfl)) rfl) ?_
                              rintro vw14 w14 ⟨hb, he⟩
                              have hBw14_w := below_step hBw13_w hb
                              have hBw14_w3 := below_step hBw13_w3 hb
                              have hBw14_w9 := below_step hBw13_w9 hb
                              have hBw14_w13 := below_step hBw13_w13 hb
                              have hBw14_w14 := Below.refl w14.heap.size w14
                              obtain rfl : vw14 = .slice A10 (((l0 ++ [99] : List Int).take ((l0.length : Int) : Int).toNat).length) C10 := he
                              replace hS := hS.put (v := .slice A10 (((l0 ++ [99] : List Int).take ((l0.length : Int) : Int).toNat).length) C10) (d := 9) (by decide) (by rfl)
                              refine wpList_nil ?_
                              refine hK4 _ _ ?_
                              clear hK4 K4
                              refine wp_seq_k (fun K15 hK15 => ?_)
                              replace hS := (((((((((hS.nil).cons (hS.get 9 rfl)).cons (hS.get 8 rfl)).cons (hS.get 7 rfl)).cons (hS.get 6 rfl)).cons (hS.get 4 rfl)).cons (hS.get 3 rfl)).cons (hS.get 2 rfl)).cons (hS.get 1 rfl)).cons (hS.get 0 rfl)
                              refine reg_any (N := 58) (bs := [(9, .slice A10 (((l0 ++ [99] : List Int).take ((l0.length : Int) : Int).toNat).length) C10), (16, .slice A10 (((l0 ++ [99] : List Int).take ((l0.length : Int) : Int).toNat).length) C10), (15, .int .i64 (l0.length : Int)), (14, .slice A0 l0.length c0), (13, .slice A10 ((l0 ++ [99] : List Int).length) C10), (0, .slice A0 l0.length c0), (1, .int .i64 a1), (2, .int .i64 a2), (3, .int .u64 a3)]) (I := fun x => Below w.heap.size w x ∧ Below w3.heap.size w3 x ∧ Below w9.heap.size w9 x ∧ Below w14.heap.size w14 x) (ps := [IsV (.slice A10 (((l0 ++ [99] : List Int).take ((l0.length : Int) : Int).toNat).length) C10), IsV (.int .i64 a1), IsV (.int .i64 a2), IsR (Kd.int .u8) 5 w14.heap.size t16, IsV (.string (strOfNums t16)), IsV (.slice A0 l0.length c0), IsV (.string (strOfNums l0)), IsV (.int .i64 a1), IsV (.int .i64 a2), IsR (Kd.int .u8) 5 w14.heap.size t17, IsV (.string (strOfNums t17)), IsV (.string ((strOfNums l0) ++ (strOfNums t17))), IsV (.bool ((strOfNums t16).toList == ((strOfNums l0) ++ (strOfNums t17)).toList)), IsV (.bool ((strOfNums t16).toList == ((strOfNums l0) ++ (strOfNums t17)).toList)), IsV (.slice A10 (((l0 ++ [99] : List Int).take ((l0.length : Int) : Int).toNat).length) C10), IsV (.int .u64 a3), IsR (Kd.int .u8) 5 w14.heap.size t18, IsV (.string (strOfNums t18)), IsV (.slice A0 l0.length c0), IsV (.string (strOfNums l0)), IsV (.int .u64 a3), IsR (Kd.int .u8) 5 w14.heap.size t19, IsV (.string (strOfNums t19)), IsV (.string ((strOfNums l0) ++ (strOfNums t19))), IsV (.bool ((strOfNums t18).toList == ((strOfNums l0) ++ (strOfNums t19)).toList)), IsV (.bool ((strOfNums t18).toList == ((strOfNums l0) ++ (strOfNums t19)).toList)), IsV (.bool ((strOfNums t18).toList == ((strOfNums l0) ++ (strOfNums t19)).toList)), IsV (.slice A10 (((l0 ++ [99] : List Int).take ((l0.length : Int) : Int).toNat).length) C10), IsV (.slice A0 l0.length c0), IsV (.int .i64 (l0.length : Int)), IsV (.int .i64 (wrap64 ((l0.length : Int) + 1))), IsV (.slice A10 (((l0 ++ [99] : List Int).take (wrap64 ((l0.length : Int) + 1) : Int).toNat).length) C10), IsV (.slice A0 l0.length c0), IsV (.int .i64 (l0.length : Int)), IsA (.int .u8 (rd (l0 ++ [99] : List Int) (l0.length : Int))), IsV (.int .u8 (rd (l0 ++ [99] : List Int) (l0.length : Int))), IsV (.bool (decide ((rd (l0 ++ [99] : List Int) (l0.length : Int)) = 99))), IsV (.bool (decide ((rd (l0 ++ [99] : List Int) (l0.length : Int)) = 99))), IsV (.bool (decide ((rd (l0 ++ [99] : List Int) (l0.length : Int)) = 99))), IsV (.bool t20), IsV (.bool t20), IsV (.bool t20)]) (by kernel_rfl) (by kernel_rfl) ?_ ?_ rfl hS ⟨hBw14_w, hBw14_w3, hBw14_w9, hBw14_w14⟩ ?_ ?_
                              · exact fun x y hI hb => ⟨below_step hI.1 hb, below_step hI.2.1 hb, below_step hI.2.2.1 hb, below_step hI.2.2.2 hb⟩
                              · exact AllStay.cons (Stays.v _) (AllStay.cons (Stays.v _) (AllStay.cons (Stays.v _) (AllStay.cons (Stays.r _ _ _ _) (AllStay.cons (Stays.v _) (AllStay.cons (Stays.v _) (AllStay.cons (Stays.v _) (AllStay.cons (Stays.v _) (AllStay.cons (Stays.v _) (AllStay.cons (Stays.r _ _ _ _) (AllStay.cons (Stays.v _) (AllStay.cons (Stays.v _) (AllStay.cons (Stays.v _) (AllStay.cons (Stays.v _) (AllStay.cons (Stays.v _) (AllStay.cons (Stays.v _) (AllStay.cons (Stays.r _ _ _ _) (AllStay.cons (Stays.v _) (AllStay.cons (Stays.v _) (AllStay.cons (Stays.v _) (AllStay.cons (Stays.v _) (AllStay.cons (Stays.r _ _ _ _) (AllStay.cons (Stays.v _) (AllStay.cons (Stays.v _) (AllStay.cons (Stays.v _) (AllStay.cons (Stays.v _) (AllStay.cons (Stays.v _) (AllStay.cons (Stays.v _) (AllStay.cons (Stays.v _) (AllStay.cons (Stays.v _) (AllStay.cons (Stays.v _) (AllStay.cons (Stays.v _) (AllStay.cons (Stays.v _) (AllStay.cons (Stays.v _) (AllStay.cons (Stays.a _) (AllStay.cons (Stays.v _) (AllStay.cons (Stays.v _) (AllStay.cons (Stays.v _) (AllStay.cons (Stays.v _) (AllStay.cons (Stays.v _) (AllStay.cons (Stays.v _) (AllStay.cons (Stays.v _) (AllStay.nil))))))))))))))))))))))))))))))))))))))))))
                              · refine Steps.cons (fun a w hS hI hp => ok_on rfl (does_val (x_move rfl (hS.get 0 rfl)) rfl)) ?_
                                refine Steps.cons (fun a w hS hI hp => ok_on rfl (does_val (x_move rfl (hS.get 6 rfl)) rfl)) ?_
                                refine Steps.cons (fun a w hS hI hp => ok_on rfl (does_val (x_move rfl (hS.get 7 rfl)) rfl)) ?_
                                refine Steps.cons (fun a w hS hI hp => ok_on rfl (does_call (by kernel_rfl) (ar3 ((hp.get 0 (by rfl) rfl rfl)) ((hp.get 1 (by rfl) rfl rfl)) ((hp.get 2 (by rfl) rfl rfl))) ((octets_Put.calls _ _ ((l0 ++ [99] : List Int).take ((l0.length : Int) : Int).toNat) a1 a2 t16 _ (Kd.C_take (m := ((l0.length : Int) : Int).toNat) (Kd.C_below hc10 hI.2.2.1) (by have := c4; omega)) (Nat.le_trans (List.length_take_le' _ _) hl10) At16).mono fun _ _ h => h.elim fun v0 h => ⟨v0, h.1, h.2.2, Kd.R_lower h.2.1 hI.2.2.2.size⟩))) ?_
                                refine Steps.cons (fun a w hS hI hp => ok_on rfl ((IsC.of_r ((hp.get 3 (by rfl) rfl rfl))).elim fun A_ h_ => h_.elim fun c_ h_ => h_.elim fun hv_ h_ => h_.elim fun hl_ hc_ => does_val (x_conv rfl hv_ (Kd.C_string (by kernel_rfl) (e := 5) (by kernel_rfl) (by kernel_rfl) hc_)) rfl)) ?_
                                refine Steps.cons (fun a w hS hI hp => ok_on rfl (does_val (x_move rfl (hS.get 5 rfl)) rfl)) ?_
                                refine Steps.cons (fun a w hS hI hp => ok_on rfl (does_val (x_conv rfl ((hp.get 5 (by rfl) rfl rfl)) (Kd.C_string (by kernel_rfl) (e := 5) (by kernel_rfl) (by kernel_rfl) (Kd.C_below HR0 hI.1))) rfl)) ?_
                                refine Steps.cons (fun a w hS hI hp => ok_on rfl (does_val (x_move rfl (hS.get 6 rfl)) rfl)) ?_
                                refine Steps.cons (fun a w hS hI hp => ok_on rfl (does_val (x_move rfl (hS.get 7 rfl)) rfl)) ?_
                                refine Steps.cons (fun a w hS hI hp => ok_on rfl (does_call (by kernel_rfl) (ar2 ((hp.get 7 (by rfl) rfl rfl)) ((hp.get 8 (by rfl) rfl rfl))) ((carillonref01_Put.calls k a1 a2 t17 _  At17).mono fun _ _ h => h.elim fun v0 h => ⟨v0, h.1, h.2.2, Kd.R_lower h.2.1 hI.2.2.2.size⟩))) ?_
                                refine Steps.cons (fun a w hS hI hp => ok_on rfl ((IsC.of_r ((hp.get 9 (by rfl) rfl rfl))).elim fun A_ h_ => h_.elim fun c_ h_ => h_.elim fun hv_ h_ => h_.elim fun hl_ hc_ => does_val (x_conv rfl hv_ (Kd.C_string (by kernel_rfl) (e := 5) (by kernel_rfl) (by kernel_rfl) hc_)) rfl)) ?_
                                refine Steps.cons (fun a w hS hI hp => ok_on rfl (does_val (x_bin rfl ((hp.get 6 (by rfl) rfl rfl)) ((hp.get 10 (by rfl) rfl rfl)) (b_adds _ _ _ _ _ c6)) rfl)) ?_
                                refine Steps.cons (fun a w hS hI hp => ok_on rfl (does_val (x_bin rfl ((hp.get 4 (by rfl) rfl rfl)) ((hp.get 11 (by rfl) rfl rfl)) (b_eqs _ _ _ _ _)) rfl)) ?_
                                refine Steps.cons (fun a w hS hI hp => ok_on rfl (does_val (x_move rfl ((hp.get 12 (by rfl) rfl rfl))) rfl)) ?_
                                refine Steps.cons (fun a w hS hI hp => ok_if (d := 30) rfl rfl (by rw [hS.size]; decide) (((hp.get 13 (by rfl) rfl rfl)).trans (bT c7)) (does_val (x_move rfl (hS.get 0 rfl)) rfl)) ?_
                                refine Steps.cons (fun a w hS hI hp => ok_if (d := 30) rfl rfl (by rw [hS.size]; decide) (((hp.get 13 (by rfl) rfl rfl)).trans (bT c7)) (does_val (x_move rfl (hS.get 8 rfl)) rfl)) ?_
                                refine Steps.cons (fun a w hS hI hp => ok_if (d := 30) rfl rfl (by rw [hS.size]; decide) (((hp.get 13 (by rfl) rfl rfl)).trans (bT c7)) (does_call (by kernel_rfl) (ar2 ((hp.get 14 (by rfl) rfl rfl)) ((hp.get 15 (by rfl) rfl rfl))) ((octets_PutId.calls _ _ ((l0 ++ [99] : List Int).take ((l0.length : Int) : Int).toNat) a3 t18 _ (Kd.C_take (m := ((l0.length : Int) : Int).toNat) (Kd.C_below hc10 hI.2.2.1) (by have := c4; omega)) (Nat.le_trans (List.length_take_le' _ _) hl10) At18).mono fun _ _ h => h.elim fun v0 h => ⟨v0, h.1, h.2.2, Kd.R_lower h.2.1 hI.2.2.2.size⟩))) ?_
                                refine Steps.cons (fun a w hS hI hp => ok_if (d := 30) rfl rfl (by rw [hS.size]; decide) (((hp.get 13 (by rfl) rfl rfl)).trans (bT c7)) ((IsC.of_r ((hp.get 16 (by rfl) rfl rfl))).elim fun A_ h_ => h_.elim fun c_ h_ => h_.elim fun hv_ h_ => h_.elim fun hl_ hc_ => does_val (x_conv rfl hv_ (Kd.C_string (by kernel_rfl) (e := 5) (by kernel_rfl) (by kernel_rfl) hc_)) rfl)) ?_
                                refine Steps.cons (fun a w hS hI hp => ok_if (d := 30) rfl rfl (by rw [hS.size]; decide) (((hp.get 13 (by rfl) rfl rfl)).trans (bT c7)) (does_val (x_move rfl (hS.get 5 rfl)) rfl)) ?_
                                refine Steps.cons (fun a w hS hI hp => ok_if (d := 30) rfl rfl (by rw [hS.size]; decide) (((hp.get 13 (by rfl) rfl rfl)).trans (bT c7)) (does_val (x_conv rfl ((hp.get 18 (by rfl) rfl rfl)) (Kd.C_string (by kernel_rfl) (e := 5) (by kernel_rfl) (by kernel_rfl) (Kd.C_below HR0 hI.1))) rfl)) ?_
                                refine Steps.cons (fun a w hS hI hp => ok_if (d := 30) rfl rfl (by rw [hS.size]; decide) (((hp.get 13 (by rfl) rfl rfl)).trans (bT c7)) (does_val (x_move rfl (hS.get 8 rfl)) rfl)) ?_
                                refine Steps.cons (fun a w hS hI hp => ok_if (d := 30) rfl rfl (by rw [hS.size]; decide) (((hp.get 13 (by rfl) rfl rfl)).trans (bT c7)) (does_call (by kernel_rfl) (ar1 ((hp.get 20 (by rfl) rfl rfl))) ((carillonref01_PutId.calls k a3 t19 _  At19).mono fun _ _ h => h.elim fun v0 h => ⟨v0, h.1, h.2.2, Kd.R_lower h.2.1 hI.2.2.2.size⟩))) ?_
                                refine Steps.cons (fun a w hS hI hp => ok_if (d := 30) rfl rfl (by rw [hS.size]; decide) (((hp.get 13 (by rfl) rfl rfl)).trans (bT c7)) ((IsC.of_r ((hp.get 21 (by rfl) rfl rfl))).elim fun A_ h_ => h_.elim fun c_ h_ => h_.elim fun hv_ h_ => h_.elim fun hl_ hc_ => does_val (x_conv rfl hv_ (Kd.C_string (by kernel_rfl) (e := 5) (by kernel_rfl) (by kernel_rfl) hc_)) rfl)) ?_
                                refine Steps.cons (fun a w hS hI hp => ok_if (d := 30) rfl rfl (by rw [hS.size]; decide) (((hp.get 13 (by rfl) rfl rfl)).trans (bT c7)) (does_val (x_bin rfl ((hp.get 19 (by rfl) rfl rfl)) ((hp.get 22 (by rfl) rfl rfl)) (b_adds _ _ _ _ _ c8)) rfl)) ?_
                                refine Steps.cons (fun a w hS hI hp => ok_if (d := 30) rfl rfl (by rw [hS.size]; decide) (((hp.get 13 (by rfl) rfl rfl)).trans (bT c7)) (does_val (x_bin rfl ((hp.get 17 (by rfl) rfl rfl)) ((hp.get 23 (by rfl) rfl rfl)) (b_eqs _ _ _ _ _)) rfl)) ?_
                                refine Steps.cons (fun a w hS hI hp => ok_on rfl (does_val (x_pickT rfl (((hp.get 13 (by rfl) rfl rfl)).trans (bT c7)) ((hp.get 24 (by rfl) rfl rfl))) rfl)) ?_
                                refine Steps.cons (fun a w hS hI hp => ok_on rfl (does_val (x_move rfl ((hp.get 25 (by rfl) rfl rfl))) rfl)) ?_
                                refine Steps.cons (fun a w hS hI hp => ok_if (d := 43) rfl rfl (by rw [hS.size]; decide) (((hp.get 26 (by rfl) rfl rfl)).trans (bT c9)) (does_val (x_move rfl (hS.get 0 rfl)) rfl)) ?_
                                refine Steps.cons (fun a w hS hI hp => ok_if (d := 43) rfl rfl (by rw [hS.size]; decide) (((hp.get 26 (by rfl) rfl rfl)).trans (bT c9)) (does_val (x_move rfl (hS.get 5 rfl)) rfl)) ?_
                                refine Steps.cons (fun a w hS hI hp => ok_if (d := 43) rfl rfl (by rw [hS.size]; decide) (((hp.get 26 (by rfl) rfl rfl)).trans (bT c9)) (does_val (x_len (e := 5) rfl (by kernel_rfl) ((hp.get 28 (by rfl) rfl rfl))) rfl)) ?_
                                refine Steps.cons (fun a w hS hI hp => ok_if (d := 43) rfl rfl (by rw [hS.size]; decide) (((hp.get 26 (by rfl) rfl rfl)).trans (bT c9)) (does_val (x_bin rfl ((hp.get 29 (by rfl) rfl rfl)) (rfl) (b_add _ _ _ _ _)) rfl)) ?_
                                refine Steps.cons (fun a w hS hI hp => ok_if (d := 43) rfl rfl (by rw [hS.size]; decide) (((hp.get 26 (by rfl) rfl rfl)).trans (bT c9)) (does_val (x_cuthi rfl (e := 5) (xs := (l0 ++ [99] : List Int)) (by kernel_rfl) (by kernel_rfl) ((hp.get 27 (by rfl) rfl rfl)) ((hp.get 30 (by rfl) rfl rfl)) c10 c11 hl10) rfl)) ?_
                                refine Steps.cons (fun a w hS hI hp => ok_if (d := 43) rfl rfl (by rw [hS.size]; decide) (((hp.get 26 (by rfl) rfl rfl)).trans (bT c9)) (does_val (x_move rfl (hS.get 5 rfl)) rfl)) ?_
                                refine Steps.cons (fun a w hS hI hp => ok_if (d := 43) rfl rfl (by rw [hS.size]; decide) (((hp.get 26 (by rfl) rfl rfl)).trans (bT c9)) (does_val (x_len (e := 5) rfl (by kernel_rfl) ((hp.get 32 (by rfl) rfl rfl))) rfl)) ?_
                                refine Steps.cons (fun a w hS hI hp => ok_if (d := 43) rfl rfl (by rw [hS.size]; decide) (((hp.get 26 (by rfl) rfl rfl)).trans (bT c9)) (does_index (e := 5) (xs := (l0 ++ [99] : List Int)) rfl ((hp.get 31 (by rfl) rfl rfl)) ((hp.get 33 (by rfl) rfl rfl)) (by kernel_rfl) (by kernel_rfl) c3 c12 c13 ((Kd.C_below hc10 hI.2.2.1)))) ?_
                                refine Steps.cons (fun a w hS hI hp => ok_if (d := 43) rfl rfl (by rw [hS.size]; decide) (((hp.get 26 (by rfl) rfl rfl)).trans (bT c9)) (((hp.get 34 (by rfl) rfl rfl)).elim fun _ h_ => does_val (x_load1 (d := .int .u8) rfl h_.1 (by kernel_rfl) rfl h_.2.2) rfl)) ?_
                                refine Steps.cons (fun a w hS hI hp => ok_if (d := 43) rfl rfl (by rw [hS.size]; decide) (((hp.get 26 (by rfl) rfl rfl)).trans (bT c9)) (does_val (x_bin rfl ((hp.get 35 (by rfl) rfl rfl)) (rfl) (b_eql _ _ _ _ _ _)) rfl)) ?_
                                refine Steps.cons (fun a w hS hI hp => ok_on rfl (does_val (x_pickT rfl (((hp.get 26 (by rfl) rfl rfl)).trans (bT c9)) ((hp.get 36 (by rfl) rfl rfl))) rfl)) ?_
                                refine Steps.cons (fun a w hS hI hp => ok_on rfl (does_val (x_move rfl ((hp.get 37 (by rfl) rfl rfl))) rfl)) ?_
                                refine Steps.cons (fun a w hS hI hp => ok_if (d := 55) rfl rfl (by rw [hS.size]; decide) (((hp.get 38 (by rfl) rfl rfl)).trans (bT (decide_eq_true c14))) (does_call (by kernel_rfl) rfl ((carillonlaw01_awake.calls k  t20 _  At20).mono fun _ _ h => ⟨_, h.1, h.2, rfl⟩))) ?_
                                refine Steps.cons (fun a w hS hI hp => ok_on rfl (does_val (x_pickT rfl (((hp.get 38 (by rfl) rfl rfl)).trans (bT (decide_eq_true c14))) ((hp.get 39 (by rfl) rfl rfl))) rfl)) ?_
                                refine Steps.cons (fun a w hS hI hp => ok_on rfl (does_val (x_assign rfl ((hp.get 40 (by rfl) rfl rfl))) rfl)) ?_
                                exact Steps.nil
                              clear hS
                              intro at21 w22 hS hI hp
                              have hBw22_w := hI.1
                              have hBw22_w3 := hI.2.1
                              have hBw22_w9 := hI.2.2.1
                              have hBw22_w14 := hI.2.2.2
                              replace hS := hS.nil
                              have hv8 : sl _ 8 = .bool t20 := hp 41 (by decide)
                              have hBw22_w22 := Below.refl w22.heap.size w22
                              have hS := hS.cons hv8
                              clear hp hI hv8
                              refine hK15 _ _ ?_
                              clear hK15 K15
                              refine wp_ret ?_
                              (try simp only [Exit.then, Exit.inBlock])
                              exact bodyPost_ret (v := .bool true) (by rw [results_tmp rfl]; exact congrArg (Result.ok · _) ((hS.get 0 rfl).trans (congrArg Value.bool hret))) hS.nodef ⟨rfl, hBw22_w⟩
                            · rw [if_neg c14] at H
                              exact absurd H (by simp)
                          · rw [if_neg c13] at H
                            exact absurd H (by simp)
                        · rw [if_neg c12] at H
                          exact absurd H (by simp)
                      · rw [if_neg c11] at H
                        exact absurd H (by simp)
                    · rw [if_neg c10] at H
                      exact absurd H (by simp)
                  · rw [if_neg c9] at H
                    exact absurd H (by simp)
                · rw [if_neg c8] at H
                  exact absurd H (by simp)
              · rw [if_neg c7] at H
                exact absurd H (by simp)
            · rw [if_neg c6] at H
              exact absurd H (by simp)
          · rw [if_neg c5] at H
            obtain ⟨t16, At16, H⟩ := Option.bind_eq_some_iff.mp H
            by_cases c6 : (strOfNums l0).size + (strOfNums t16).size ≤ 9223372036854775807
            · rw [if_pos c6] at H
              by_cases c7 : ((strOfNums ((l0 ++ [99] : List Int).take ((l0.length : Int) : Int).toNat)).toList == ((strOfNums l0) ++ (strOfNums t16)).toList) = true
              · rw [if_pos c7] at H
                obtain ⟨t17, At17, H⟩ := Option.bind_eq_some_iff.mp H
                obtain ⟨t18, At18, H⟩ := Option.bind_eq_some_iff.mp H
                by_cases c8 : (strOfNums l0).size + (strOfNums t18).size ≤ 9223372036854775807
                · rw [if_pos c8] at H
                  by_cases c9 : ((strOfNums t17).toList == ((strOfNums l0) ++ (strOfNums t18)).toList) = true
                  · rw [if_pos c9] at H
                    by_cases c10 : 0 ≤ (wrap64 ((l0.length : Int) + 1))
                    · rw [if_pos c10] at H
                      by_cases c11 : (wrap64 ((l0.length : Int) + 1)) ≤ ((l0 ++ [99] : List Int).length : Int)
                      · rw [if_pos c11] at H
                        by_cases c12 : (l0.length : Int) < (((l0 ++ [99] : List Int).take (wrap64 ((l0.length : Int) + 1) : Int).toNat).length : Int)
                        · rw [if_pos c12] at H
                          by_cases c13 : (l0.length : Int) < ((l0 ++ [99] : List Int).length : Int)
                          · rw [if_pos c13] at H
                            by_cases c14 : (rd (l0 ++ [99] : List Int) (l0.length : Int)) = 99
                            · rw [if_pos c14] at H
                              obtain ⟨t19, At19, H⟩ := Option.bind_eq_some_iff.mp H
                              have hret := Option.some.inj H
                              clear H
                              refine calls_of_wp (fn := Try.f5) (by kernel_rfl) rfl ?_
                              have hS := St.enter #[.slice A0 l0.length c0, .int .i64 a1, .int .i64 a2, .int .u64 a3] 58 (by simp) [(0, .slice A0 l0.length c0), (1, .int .i64 a1), (2, .int .i64 a2), (3, .int .u64 a3)] (by simp)
                              have HB0 := Below.refl w.heap.size w
                              refine wp_seq_k (fun K1 hK1 => ?_)
                              refine reg_seq (N := 58) (bs := [(0, .slice A0 l0.length c0), (1, .int .i64 a1), (2, .int .i64 a2), (3, .int .u64 a3)]) (I := fun x => Below w.heap.size w x) (ps := [IsV (.bool false)]) (by kernel_rfl) ?_ ?_ rfl hS HB0 ?_ ?_
                              · exact fun x y hI hb => below_step hI hb
                              · exact AllStay.cons (Stays.v _) (AllStay.nil)
                              · refine Steps.cons (fun a w hS hI hp => ok_on rfl (does_val (x_assign rfl (rfl)) rfl)) ?_
                                exact Steps.nil
                              clear hS
                              intro at2 w3 hS hI hp
                              have hBw3_w := hI
                              have hv8 : sl _ 8 = .bool false := hp 0 (by decide)
                              have hBw3_w3 := Below.refl w3.heap.size w3
                              have hS := hS.cons hv8
                              clear hp hI hv8
                              refine hK1 _ _ ?_
                              clear hK1 K1
                              refine wp_seq_k (fun K4 hK4 => ?_)
                              refine reg_seq_tail 3 (N := 58) (bs := [(8, .bool false), (0, .slice A0 l0.length c0), (1, .int .i64 a1), (2, .int .i64 a2), (3, .int .u64 a3)]) (I := fun x => Below w.heap.size w x ∧ Below w3.heap.size w3 x) (ps := [IsV (.slice A0 l0.length c0), IsR (Kd.int .u8) 5 w3.heap.size l0, IsR (Kd.int .u8) 5 w3.heap.size [99]]) (by kernel_rfl) ?_ ?_ rfl hS ⟨hBw3_w, hBw3_w3⟩ ?_ ?_
                              · exact fun x y hI hb => ⟨below_step hI.1 hb, below_step hI.2 hb⟩
                              · exact AllStay.cons (Stays.v _) (AllStay.cons (Stays.r _ _ _ _) (AllStay.cons (Stays.r _ _ _ _) (AllStay.nil)))
                              · refine Steps.cons (fun a w hS hI hp => ok_on rfl (does_val (x_move rfl (hS.get 1 rfl)) rfl)) ?_
                                refine Steps.cons (fun a w hS hI hp => ok_on rfl (does_copy w3.heap.size _ (.tmp 10) 24 5 1 rfl (by kernel_rfl) (by kernel_rfl) (by decide) l0 _ _ (rfl) ((hp.get 0 (by rfl) rfl rfl)) ((Kd.C_below HR0 hI.1)) (hI.2).size c1)) ?_
                                refine Steps.cons (fun a w hS hI hp => ok_on rfl (does_lit w3.heap.size 24 5 1 _ [(0, .int .u8 99)] [99] rfl (by kernel_rfl) (by rw [Array.toList_map]; exact (show [(0, a.eval (.const (.int .u8 99)))] = _ from (li_cons (rfl) rfl))) (by kernel_rfl) rfl (hI.2).size (Nat.le_of_ble_eq_true rfl))) ?_
                                exact Steps.nil
                              clear hS
                              intro at5 w6 hS hI hp
                              have hBw6_w := hI.1
                              have hBw6_w3 := hI.2
                              obtain ⟨A7, C7, hv11, hl7, hc7⟩ := Kd.R_reads (show Kd.R (Kd.int .u8) 5 w6 w3.heap.size (fun _ => True) (sl _ 11) l0 from hp 1 (by decide))
                              have ho7 : Kd.R (Kd.int .u8) 5 w6 w3.heap.size (fun _ => True) (.slice A7 l0.length C7) l0 := hv11 ▸ (hp 1 (by decide))
                              obtain ⟨A8, C8, hv12, hl8, hc8⟩ := Kd.R_reads (show Kd.R (Kd.int .u8) 5 w6 w3.heap.size (fun _ => True) (sl _ 12) [99] from hp 2 (by decide))
                              have ho8 : Kd.R (Kd.int .u8) 5 w6 w3.heap.size (fun _ => True) (.slice A8 [99].length C8) [99] := hv12 ▸ (hp 2 (by decide))
                              have hBw6_w6 := Below.refl w6.heap.size w6
                              have hS := hS.cons hv11
                              have hS := hS.cons hv12
                              clear hp hI hv11 hv12
                              show wpList _ _ _ [_, _, _, _, _] _ _
                              refine list_step rfl (does_more (W := w3) (.tmp 11) (.tmp 12) 24 5 1 rfl (by kernel_rfl) (by kernel_rfl) (by decide) _ l0 [99] _ _ (hS.get 1 rfl) (hS.get 0 rfl) (Kd.R_below ho7 hBw6_w6) (Kd.C_below hc8 hBw6_w6) hBw6_w3 c2) ?_
                              rintro vw9 w9 ⟨hb, hr⟩
                              have hBw9_w := below_step hBw3_w hb
                              have hBw9_w3 := hb
                              replace hS := (((((hS.nil).cons (hS.get 6 rfl)).cons (hS.get 5 rfl)).cons (hS.get 4 rfl)).cons (hS.get 3 rfl)).cons (hS.get 2 rfl)
                              have hBw9_w9 := Below.refl w9.heap.size w9
                              obtain ⟨A10, C10, rfl, hl10, hc10⟩ := Kd.R_reads hr
                              have hr10 := hr
                              clear hr
                              replace hS := hS.put (v := .slice A10 ((l0 ++ [99] : List Int).length) C10) (d := 13) (by decide) (by rfl)
                              refine list_step rfl (R := fun v w' => Below _ _ w' ∧ (IsV (.slice A0 l0.length c0)) v w') (does_val (x_move rfl (hS.get 2 rfl)) rfl) ?_
                              rintro vw11 w11 ⟨hb, he⟩
                              have hBw11_w := below_step hBw9_w hb
                              have hBw11_w3 := below_step hBw9_w3 hb
                              have hBw11_w9 := below_step hBw9_w9 hb
                              have hBw11_w11 := Below.refl w11.heap.size w11
                              obtain rfl : vw11 = .slice A0 l0.length c0 := he
                              replace hS := hS.put (v := .slice A0 l0.length c0) (d := 14) (by decide) (by rfl)
                              refine list_step rfl (R := fun v w' => Below _ _ w' ∧ (IsV (.int .i64 (l0.length : Int))) v w') (does_val (x_len (e := 5) rfl (by kernel_rfl) (hS.get 0 rfl)) rfl) ?_
                              rintro vw12 w12 ⟨hb, he⟩
                              have hBw12_w := below_step hBw11_w hb
                              have hBw12_w3 := below_step hBw11_w3 hb
                              have hBw12_w9 := below_step hBw11_w9 hb
                              have hBw12_w11 := below_step hBw11_w11 hb
                              have hBw12_w12 := Below.refl w12.heap.size w12
                              obtain rfl : vw12 = .int .i64 (l0.length : Int) := he
                              replace hS := hS.put (v := .int .i64 (l0.length : Int)) (d := 15) (by decide) (by rfl)
                              refine list_step rfl (R := fun v w' => Below _ _ w' ∧ (IsV (.slice A10 (((l0 ++ [99] : List Int).take ((l0.length : Int) : Int).toNat).length) C10)) v w') (does_val (x_cuthi rfl (e := 5) (xs := (l0 ++ [99] : List Int)) (by kernel_rfl) (by kernel_rfl) (hS.get 2 rfl) (hS.get 0 rfl) c3 c4 hl10) rfl) ?_
                              rintro vw13 w13 ⟨hb, he⟩
                              have hBw13_w := below_step hBw12_w hb
                              have hBw13_w3 := below_step hBw12_w3 hb
                              have hBw13_w9 := below_step hBw12_w9 hb
                              have hBw13_w12 := below_step hBw12_w12 hb
                              have hBw13_w13 := Below.refl w13.heap.size w13
                              obtain rfl : vw13 = .slice A10 (((l0 ++ [99] : List Int).take ((l0.length : Int) : Int).toNat).length) C10 := he
                              replace hS := hS.put (v := .slice A10 (((l0 ++ [99] : List Int).take ((l0.length : Int) : Int).toNat).length) C10) (d := 16) (by decide) (by rfl)
                              refine list_step rfl (R := fun v w' => Below _ _ w' ∧ (IsV (.slice A10 (((l0 ++ [99] : List Int).take ((l0.length : Int) : Int).toNat).length) C10)) v w') (does_val (x_assign rfl (hS.get 0 rfl)) rfl) ?_
                              rintro vw14 w14 ⟨hb, he⟩
                              have hBw14_w := below_step hBw13_w hb
                              have hBw14_w3 := below_step hBw13_w3 hb
                              have hBw14_w9 := below_step hBw13_w9 hb
                              have hBw14_w13 := below_step hBw13_w13 hb
                              have hBw14_w14 := Below.refl w14.heap.size w14
                              obtain rfl : vw14 = .slice A10 (((l0 ++ [99] : List Int).take ((l0.length : Int) : Int).toNat).length) C10 := he
                              replace hS := hS.put (v := .slice A10 (((l0 ++ [99] : List Int).take ((l0.length : Int) : Int).toNat).length) C10) (d := 9) (by decide) (by rfl)
                              refine wpList_nil ?_
                              refine hK4 _ _ ?_
                              clear hK4 K4
                              refine wp_seq_k (fun K15 hK15 => ?_)
                              replace hS := (((((((((hS.nil).cons (hS.get 9 rfl)).cons (hS.get 8 rfl)).cons (hS.get 7 rfl)).cons (hS.get 6 rfl)).cons (hS.get 4 rfl)).cons (hS.get 3 rfl)).cons (hS.get 2 rfl)).cons (hS.get 1 rfl)).cons (hS.get 0 rfl)
                              refine reg_any (N := 58) (bs := [(9, .slice A10 (((l0 ++ [99] : List Int).take ((l0.length : Int) : Int).toNat).length) C10), (16, .slice A10 (((l0 ++ [99] : List Int).take ((l0.length : Int) : Int).toNat).length) C10), (15, .int .i64 (l0.length : Int)), (14, .slice A0 l0.length c0), (13, .slice A10 ((l0 ++ [99] : List Int).length) C10), (0, .slice A0 l0.length c0), (1, .int .i64 a1), (2, .int .i64 a2), (3, .int .u64 a3)]) (I := fun x => Below w.heap.size w x ∧ Below w3.heap.size w3 x ∧ Below w9.heap.size w9 x ∧ Below w14.heap.size w14 x) (ps := [IsV (.slice A10 (((l0 ++ [99] : List Int).take ((l0.length : Int) : Int).toNat).length) C10), IsV (.int .i64 a1), IsV (.int .i64 a2), IsV (.slice A10 (((l0 ++ [99] : List Int).take ((l0.length : Int) : Int).toNat).length) (((l0 ++ [99] : List Int).take ((l0.length : Int) : Int).toNat).length)), IsV (.string (strOfNums ((l0 ++ [99] : List Int).take ((l0.length : Int) : Int).toNat))), IsV (.slice A0 l0.length c0), IsV (.string (strOfNums l0)), IsV (.int .i64 a1), IsV (.int .i64 a2), IsR (Kd.int .u8) 5 w14.heap.size t16, IsV (.string (strOfNums t16)), IsV (.string ((strOfNums l0) ++ (strOfNums t16))), IsV (.bool ((strOfNums ((l0 ++ [99] : List Int).take ((l0.length : Int) : Int).toNat)).toList == ((strOfNums l0) ++ (strOfNums t16)).toList)), IsV (.bool ((strOfNums ((l0 ++ [99] : List Int).take ((l0.length : Int) : Int).toNat)).toList == ((strOfNums l0) ++ (strOfNums t16)).toList)), IsV (.slice A10 (((l0 ++ [99] : List Int).take ((l0.length : Int) : Int).toNat).length) C10), IsV (.int .u64 a3), IsR (Kd.int .u8) 5 w14.heap.size t17, IsV (.string (strOfNums t17)), IsV (.slice A0 l0.length c0), IsV (.string (strOfNums l0)), IsV (.int .u64 a3), IsR (Kd.int .u8) 5 w14.heap.size t18, IsV (.string (strOfNums t18)), IsV (.string ((strOfNums l0) ++ (strOfNums t18))), IsV (.bool ((strOfNums t17).toList == ((strOfNums l0) ++ (strOfNums t18)).toList)), IsV (.bool ((strOfNums t17).toList == ((strOfNums l0) ++ (strOfNums t18)).toList)), IsV (.bool ((strOfNums t17).toList == ((strOfNums l0) ++ (strOfNums t18)).toList)), IsV (.slice A10 (((l0 ++ [99] : List Int).take ((l0.length : Int) : Int).toNat).length) C10), IsV (.slice A0 l0.length c0), IsV (.int .i64 (l0.length : Int)), IsV (.int .i64 (wrap64 ((l0.length : Int) + 1))), IsV (.slice A10 (((l0 ++ [99] : List Int).take (wrap64 ((l0.length : Int) + 1) : Int).toNat).length) C10), IsV (.slice A0 l0.length c0), IsV (.int .i64 (l0.length : Int)), IsA (.int .u8 (rd (l0 ++ [99] : List Int) (l0.length : Int))), IsV (.int .u8 (rd (l0 ++ [99] : List Int) (l0.length : Int))), IsV (.bool (decide ((rd (l0 ++ [99] : List Int) (l0.length : Int)) = 99))), IsV (.bool (decide ((rd (l0 ++ [99] : List Int) (l0.length : Int)) = 99))), IsV (.bool (decide ((rd (l0 ++ [99] : List Int) (l0.length : Int)) = 99))), IsV (.bool t19), IsV (.bool t19), IsV (.bool t19)]) (by kernel_rfl) (by kernel_rfl) ?_ ?_ rfl hS ⟨hBw14_w, hBw14_w3, hBw14_w9, hBw14_w14⟩ ?_ ?_
                              · exact fun x y hI hb => ⟨below_step hI.1 hb, below_step hI.2.1 hb, below_step hI.2.2.1 hb, below_step hI.2.2.2 hb⟩
                              · exact AllStay.cons (Stays.v _) (AllStay.cons (Stays.v _) (AllStay.cons (Stays.v _) (AllStay.cons (Stays.v _) (AllStay.cons (Stays.v _) (AllStay.cons (Stays.v _) (AllStay.cons (Stays.v _) (AllStay.cons (Stays.v _) (AllStay.cons (Stays.v _) (AllStay.cons (Stays.r _ _ _ _) (AllStay.cons (Stays.v _) (AllStay.cons (Stays.v _) (AllStay.cons (Stays.v _) (AllStay.cons (Stays.v _) (AllStay.cons (Stays.v _) (AllStay.cons (Stays.v _) (AllStay.cons (Stays.r _ _ _ _) (AllStay.cons (Stays.v _) (AllStay.cons (Stays.v _) (AllStay.cons (Stays.v _) (AllStay.cons (Stays.v _) (AllStay.cons (Stays.r _ _ _ _) (AllStay.cons (Stays.v _) (AllStay.cons (Stays.v _) (AllStay.cons (Stays.v _) (AllStay.cons (Stays.v _) (AllStay.cons (Stays.v _) (AllStay.cons (Stays.v _) (AllStay.cons (Stays.v _) (AllStay.cons (Stays.v _) (AllStay.cons (Stays.v _) (AllStay.cons (Stays.v _) (AllStay.cons (Stays.v _) (AllStay.cons (Stays.v _) (AllStay.cons (Stays.a _) (AllStay.cons (Stays.v _) (AllStay.cons (Stays.v _) (AllStay.cons (Stays.v _) (AllStay.cons (Stays.v _) (AllStay.cons (Stays.v _) (AllStay.cons (Stays.v _) (AllStay.cons (Stays.v _) (AllStay.nil))))))))))))))))))))))))))))))))))))))))))
                              · refine Steps.cons (fun a w hS hI hp => ok_on rfl (does_val (x_move rfl (hS.get 0 rfl)) rfl)) ?_
                                refine Steps.cons (fun a w hS hI hp => ok_on rfl (does_val (x_move rfl (hS.get 6 rfl)) rfl)) ?_
                                refine Steps.cons (fun a w hS hI hp => ok_on rfl (does_val (x_move rfl (hS.get 7 rfl)) rfl)) ?_
                                refine Steps.cons (fun a w hS hI hp => ok_on rfl (does_call (by kernel_rfl) (ar3 ((hp.get 0 (by rfl) rfl rfl)) ((hp.get 1 (by rfl) rfl rfl)) ((hp.get 2 (by rfl) rfl rfl))) ((octets_Put.calls0 _ _ ((l0 ++ [99] : List Int).take ((l0.length : Int) : Int).toNat) _ _ _ (Nat.le_trans (List.length_take_le' _ _) hl10) c5).mono fun _ _ h => ⟨_, h.1, h.2, rfl⟩))) ?_
                                refine Steps.cons (fun a w hS hI hp => ok_on rfl (does_val (x_conv rfl ((hp.get 3 (by rfl) rfl rfl)) (Kd.C_string (by kernel_rfl) (e := 5) (by kernel_rfl) (by kernel_rfl) (Kd.C_take (m := ((l0.length : Int) : Int).toNat) (Kd.C_below hc10 hI.2.2.1) (by have := c4; omega)))) rfl)) ?_
                                refine Steps.cons (fun a w hS hI hp => ok_on rfl (does_val (x_move rfl (hS.get 5 rfl)) rfl)) ?_
                                refine Steps.cons (fun a w hS hI hp => ok_on rfl (does_val (x_conv rfl ((hp.get 5 (by rfl) rfl rfl)) (Kd.C_string (by kernel_rfl) (e := 5) (by kernel_rfl) (by kernel_rfl) (Kd.C_below HR0 hI.1))) rfl)) ?_
                                refine Steps.cons (fun a w hS hI hp => ok_on rfl (does_val (x_move rfl (hS.get 6 rfl)) rfl)) ?_
                                refine Steps.cons (fun a w hS hI hp => ok_on rfl (does_val (x_move rfl (hS.get 7 rfl)) rfl)) ?_
                                refine Steps.cons (fun a w hS hI hp => ok_on rfl (does_call (by kernel_rfl) (ar2 ((hp.get 7 (by rfl) rfl rfl)) ((hp.get 8 (by rfl) rfl rfl))) ((carillonref01_Put.calls k a1 a2 t16 _  At16).mono fun _ _ h => h.elim fun v0 h => ⟨v0, h.1, h.2.2, Kd.R_lower h.2.1 hI.2.2.2.size⟩))) ?_
                                refine Steps.cons (fun a w hS hI hp => ok_on rfl ((IsC.of_r ((hp.get 9 (by rfl) rfl rfl))).elim fun A_ h_ => h_.elim fun c_ h_ => h_.elim fun hv_ h_ => h_.elim fun hl_ hc_ => does_val (x_conv rfl hv_ (Kd.C_string (by kernel_rfl) (e := 5) (by kernel_rfl) (by kernel_rfl) hc_)) rfl)) ?_
                                refine Steps.cons (fun a w hS hI hp => ok_on rfl (does_val (x_bin rfl ((hp.get 6 (by rfl) rfl rfl)) ((hp.get 10 (by rfl) rfl rfl)) (b_adds _ _ _ _ _ c6)) rfl)) ?_
                                refine Steps.cons (fun a w hS hI hp => ok_on rfl (does_val (x_bin rfl ((hp.get 4 (by rfl) rfl rfl)) ((hp.get 11 (by rfl) rfl rfl)) (b_eqs _ _ _ _ _)) rfl)) ?_
                                refine Steps.cons (fun a w hS hI hp => ok_on rfl (does_val (x_move rfl ((hp.get 12 (by rfl) rfl rfl))) rfl)) ?_
                                refine Steps.cons (fun a w hS hI hp => ok_if (d := 30) rfl rfl (by rw [hS.size]; decide) (((hp.get 13 (by rfl) rfl rfl)).trans (bT c7)) (does_val (x_move rfl (hS.get 0 rfl)) rfl)) ?_
                                refine Steps.cons (fun a w hS hI hp => ok_if (d := 30) rfl rfl (by rw [hS.size]; decide) (((hp.get 13 (by rfl) rfl rfl)).trans (bT c7)) (does_val (x_move rfl (hS.get 8 rfl)) rfl)) ?_
                                refine Steps.cons (fun a w hS hI hp => ok_if (d := 30) rfl rfl (by rw [hS.size]; decide) (((hp.get 13 (by rfl) rfl rfl)).trans (bT c7)) (does_call (by kernel_rfl) (ar2 ((hp.get 14 (by rfl) rfl rfl)) ((hp.get 15 (by rfl) rfl rfl))) ((octets_PutId.calls _ _ ((l0 ++ [99] : List Int).take ((l0.length : Int) : Int).toNat) a3 t17 _ (Kd.C_take (m := ((l0.length : Int) : Int).toNat) (Kd.C_below hc10 hI.2.2.1) (by have := c4; omega)) (Nat.le_trans (List.length_take_le' _ _) hl10) At17).mono fun _ _ h => h.elim fun v0 h => ⟨v0, h.1, h.2.2, Kd.R_lower h.2.1 hI.2.2.2.size⟩))) ?_
                                refine Steps.cons (fun a w hS hI hp => ok_if (d := 30) rfl rfl (by rw [hS.size]; decide) (((hp.get 13 (by rfl) rfl rfl)).trans (bT c7)) ((IsC.of_r ((hp.get 16 (by rfl) rfl rfl))).elim fun A_ h_ => h_.elim fun c_ h_ => h_.elim fun hv_ h_ => h_.elim fun hl_ hc_ => does_val (x_conv rfl hv_ (Kd.C_string (by kernel_rfl) (e := 5) (by kernel_rfl) (by kernel_rfl) hc_)) rfl)) ?_
                                refine Steps.cons (fun a w hS hI hp => ok_if (d := 30) rfl rfl (by rw [hS.size]; decide) (((hp.get 13 (by rfl) rfl rfl)).trans (bT c7)) (does_val (x_move rfl (hS.get 5 rfl)) rfl)) ?_
                                refine Steps.cons (fun a w hS hI hp => ok_if (d := 30) rfl rfl (by rw [hS.size]; decide) (((hp.get 13 (by rfl) rfl rfl)).trans (bT c7)) (does_val (x_conv rfl ((hp.get 18 (by rfl) rfl rfl)) (Kd.C_string (by kernel_rfl) (e := 5) (by kernel_rfl) (by kernel_rfl) (Kd.C_below HR0 hI.1))) rfl)) ?_
                                refine Steps.cons (fun a w hS hI hp => ok_if (d := 30) rfl rfl (by rw [hS.size]; decide) (((hp.get 13 (by rfl) rfl rfl)).trans (bT c7)) (does_val (x_move rfl (hS.get 8 rfl)) rfl)) ?_
                                refine Steps.cons (fun a w hS hI hp => ok_if (d := 30) rfl rfl (by rw [hS.size]; decide) (((hp.get 13 (by rfl) rfl rfl)).trans (bT c7)) (does_call (by kernel_rfl) (ar1 ((hp.get 20 (by rfl) rfl rfl))) ((carillonref01_PutId.calls k a3 t18 _  At18).mono fun _ _ h => h.elim fun v0 h => ⟨v0, h.1, h.2.2, Kd.R_lower h.2.1 hI.2.2.2.size⟩))) ?_
                                refine Steps.cons (fun a w hS hI hp => ok_if (d := 30) rfl rfl (by rw [hS.size]; decide) (((hp.get 13 (by rfl) rfl rfl)).trans (bT c7)) ((IsC.of_r ((hp.get 21 (by rfl) rfl rfl))).elim fun A_ h_ => h_.elim fun c_ h_ => h_.elim fun hv_ h_ => h_.elim fun hl_ hc_ => does_val (x_conv rfl hv_ (Kd.C_string (by kernel_rfl) (e := 5) (by kernel_rfl) (by kernel_rfl) hc_)) rfl)) ?_
                                refine Steps.cons (fun a w hS hI hp => ok_if (d := 30) rfl rfl (by rw [hS.size]; decide) (((hp.get 13 (by rfl) rfl rfl)).trans (bT c7)) (does_val (x_bin rfl ((hp.get 19 (by rfl) rfl rfl)) ((hp.get 22 (by rfl) rfl rfl)) (b_adds _ _ _ _ _ c8)) rfl)) ?_
                                refine Steps.cons (fun a w hS hI hp => ok_if (d := 30) rfl rfl (by rw [hS.size]; decide) (((hp.get 13 (by rfl) rfl rfl)).trans (bT c7)) (does_val (x_bin rfl ((hp.get 17 (by rfl) rfl rfl)) ((hp.get 23 (by rfl) rfl rfl)) (b_eqs _ _ _ _ _)) rfl)) ?_
                                refine Steps.cons (fun a w hS hI hp => ok_on rfl (does_val (x_pickT rfl (((hp.get 13 (by rfl) rfl rfl)).trans (bT c7)) ((hp.get 24 (by rfl) rfl rfl))) rfl)) ?_
                                refine Steps.cons (fun a w hS hI hp => ok_on rfl (does_val (x_move rfl ((hp.get 25 (by rfl) rfl rfl))) rfl)) ?_
                                refine Steps.cons (fun a w hS hI hp => ok_if (d := 43) rfl rfl (by rw [hS.size]; decide) (((hp.get 26 (by rfl) rfl rfl)).trans (bT c9)) (does_val (x_move rfl (hS.get 0 rfl)) rfl)) ?_
                                refine Steps.cons (fun a w hS hI hp => ok_if (d := 43) rfl rfl (by rw [hS.size]; decide) (((hp.get 26 (by rfl) rfl rfl)).trans (bT c9)) (does_val (x_move rfl (hS.get 5 rfl)) rfl)) ?_
                                refine Steps.cons (fun a w hS hI hp => ok_if (d := 43) rfl rfl (by rw [hS.size]; decide) (((hp.get 26 (by rfl) rfl rfl)).trans (bT c9)) (does_val (x_len (e := 5) rfl (by kernel_rfl) ((hp.get 28 (by rfl) rfl rfl))) rfl)) ?_
                                refine Steps.cons (fun a w hS hI hp => ok_if (d := 43) rfl rfl (by rw [hS.size]; decide) (((hp.get 26 (by rfl) rfl rfl)).trans (bT c9)) (does_val (x_bin rfl ((hp.get 29 (by rfl) rfl rfl)) (rfl) (b_add _ _ _ _ _)) rfl)) ?_
                                refine Steps.cons (fun a w hS hI hp => ok_if (d := 43) rfl rfl (by rw [hS.size]; decide) (((hp.get 26 (by rfl) rfl rfl)).trans (bT c9)) (does_val (x_cuthi rfl (e := 5) (xs := (l0 ++ [99] : List Int)) (by kernel_rfl) (by kernel_rfl) ((hp.get 27 (by rfl) rfl rfl)) ((hp.get 30 (by rfl) rfl rfl)) c10 c11 hl10) rfl)) ?_
                                refine Steps.cons (fun a w hS hI hp => ok_if (d := 43) rfl rfl (by rw [hS.size]; decide) (((hp.get 26 (by rfl) rfl rfl)).trans (bT c9)) (does_val (x_move rfl (hS.get 5 rfl)) rfl)) ?_
                                refine Steps.cons (fun a w hS hI hp => ok_if (d := 43) rfl rfl (by rw [hS.size]; decide) (((hp.get 26 (by rfl) rfl rfl)).trans (bT c9)) (does_val (x_len (e := 5) rfl (by kernel_rfl) ((hp.get 32 (by rfl) rfl rfl))) rfl)) ?_
                                refine Steps.cons (fun a w hS hI hp => ok_if (d := 43) rfl rfl (by rw [hS.size]; decide) (((hp.get 26 (by rfl) rfl rfl)).trans (bT c9)) (does_index (e := 5) (xs := (l0 ++ [99] : List Int)) rfl ((hp.get 31 (by rfl) rfl rfl)) ((hp.get 33 (by rfl) rfl rfl)) (by kernel_rfl) (by kernel_rfl) c3 c12 c13 ((Kd.C_below hc10 hI.2.2.1)))) ?_
                                refine Steps.cons (fun a w hS hI hp => ok_if (d := 43) rfl rfl (by rw [hS.size]; decide) (((hp.get 26 (by rfl) rfl rfl)).trans (bT c9)) (((hp.get 34 (by rfl) rfl rfl)).elim fun _ h_ => does_val (x_load1 (d := .int .u8) rfl h_.1 (by kernel_rfl) rfl h_.2.2) rfl)) ?_
                                refine Steps.cons (fun a w hS hI hp => ok_if (d := 43) rfl rfl (by rw [hS.size]; decide) (((hp.get 26 (by rfl) rfl rfl)).trans (bT c9)) (does_val (x_bin rfl ((hp.get 35 (by rfl) rfl rfl)) (rfl) (b_eql _ _ _ _ _ _)) rfl)) ?_
                                refine Steps.cons (fun a w hS hI hp => ok_on rfl (does_val (x_pickT rfl (((hp.get 26 (by rfl) rfl rfl)).trans (bT c9)) ((hp.get 36 (by rfl) rfl rfl))) rfl)) ?_
                                refine Steps.cons (fun a w hS hI hp => ok_on rfl (does_val (x_move rfl ((hp.get 37 (by rfl) rfl rfl))) rfl)) ?_
                                refine Steps.cons (fun a w hS hI hp => ok_if (d := 55) rfl rfl (by rw [hS.size]; decide) (((hp.get 38 (by rfl) rfl rfl)).trans (bT (decide_eq_true c14))) (does_call (by kernel_rfl) rfl ((carillonlaw01_awake.calls k  t19 _  At19).mono fun _ _ h => ⟨_, h.1, h.2, rfl⟩))) ?_
                                refine Steps.cons (fun a w hS hI hp => ok_on rfl (does_val (x_pickT rfl (((hp.get 38 (by rfl) rfl rfl)).trans (bT (decide_eq_true c14))) ((hp.get 39 (by rfl) rfl rfl))) rfl)) ?_
                                refine Steps.cons (fun a w hS hI hp => ok_on rfl (does_val (x_assign rfl ((hp.get 40 (by rfl) rfl rfl))) rfl)) ?_
                                exact Steps.nil
                              clear hS
                              intro at20 w21 hS hI hp
                              have hBw21_w := hI.1
                              have hBw21_w3 := hI.2.1
                              have hBw21_w9 := hI.2.2.1
                              have hBw21_w14 := hI.2.2.2
                              replace hS := hS.nil
                              have hv8 : sl _ 8 = .bool t19 := hp 41 (by decide)
                              have hBw21_w21 := Below.refl w21.heap.size w21
                              have hS := hS.cons hv8
                              clear hp hI hv8
                              refine hK15 _ _ ?_
                              clear hK15 K15
                              refine wp_ret ?_
                              (try simp only [Exit.then, Exit.inBlock])
                              exact bodyPost_ret (v := .bool true) (by rw [results_tmp rfl]; exact congrArg (Result.ok · _) ((hS.get 0 rfl).trans (congrArg Value.bool hret))) hS.nodef ⟨rfl, hBw21_w⟩
                            · rw [if_neg c14] at H
                              exact absurd H (by simp)
                          · rw [if_neg c13] at H
                            exact absurd H (by simp)
                        · rw [if_neg c12] at H
                          exact absurd H (by simp)
                      · rw [if_neg c11] at H
                        exact absurd H (by simp)
                    · rw [if_neg c10] at H
                      exact absurd H (by simp)
                  · rw [if_neg c9] at H
                    exact absurd H (by simp)
                · rw [if_neg c8] at H
                  exact absurd H (by simp)
              · rw [if_neg c7] at H
                exact absurd H (by simp)
            · rw [if_neg c6] at H
              exact absurd H (by simp)
        · rw [if_neg c4] at H
          exact absurd H (by simp)
      · rw [if_neg c3] at H
        exact absurd H (by simp)
    · rw [if_neg c2] at H
      exact absurd H (by simp)
  · rw [if_neg c1] at H
    exact absurd H (by simp)

/-- The one pure statement of carillonlaw01_OctetsPuts. -/
def carillonlaw01_OctetsPuts.Pure : Prop := ∀ (l0 : List Int) (a1 : Int) (a2 : Int) (a3 : Int), l0.length ≤ maxLen → l0.length * 1 ≤ 140737488351232 → (∀ x ∈ l0, (Lit.int .u8 x).wf = true) → (Lit.int .i64 a1).wf = true → (Lit.int .i64 a2).wf = true → (Lit.int .u64 a3).wf = true → ∃ k, carillonlaw01_OctetsPuts.f k l0 a1 a2 a3 = some true
theorem carillonlaw01_OctetsPuts.walk (P : carillonlaw01_OctetsPuts.Pure) (a0 : Option Addr) (len0 cap0 : Nat) (z0 : List Int) (a1 : Int) (a2 : Int) (a3 : Int) (w : World) (w0 : (a0 = none ∧ len0 = 0 ∧ cap0 = 0 ∧ z0 = []) ∨ ∃ x, a0 = some x ∧ len0 ≤ cap0 ∧ cap0 ≤ maxLen ∧ z0.length = cap0 ∧ (∀ i, i < z0.length → w.cell? (x.add i) = some (.int .u8 (z0.getD i 0))) ∧ ∀ n ∈ z0, (Lit.int .u8 n).wf = true) (y0 : len0 * 1 ≤ 140737488351232) (w1 : (Lit.int .i64 a1).wf = true) (w2 : (Lit.int .i64 a2).wf = true) (w3 : (Lit.int .u64 a3).wf = true) :
    Calls Try.prog 5 #[.slice a0 len0 cap0, .int .i64 a1, .int .i64 a2, .int .u64 a3] w fun e w' => e = .returned (.bool true) ∧ Below w.heap.size w w' := by
  obtain ⟨l0, rfl, hr0, hm0, hw0, hc0⟩ := ReadsInt.ofRowC w0
  obtain ⟨k, h⟩ := P l0 a1 a2 a3 hm0 y0 hw0 w1 w2 w3
  refine (carillonlaw01_OctetsPuts.calls k _ _ l0 a1 a2 a3 w (Kd.C_of_reads (d := (0 : Int)) (h1 := fun _ => rfl) hr0) hc0 h).mono ?_
  rintro e w' ⟨rfl, hd⟩
  exact ⟨rfl, hd⟩

/-! ### carillonlaw00_Place: function 9 -/
def carillonlaw00_Place.f (a0 : Int) (a1 : Int) : Option (Int) := if a1 = 0 then (none) else (if (Int.tmod a0 a1) < 0 then (some (wrap64 ((Int.tmod a0 a1) + a1))) else (some (Int.tmod a0 a1)))
set_option maxHeartbeats 8000000 in
set_option maxRecDepth 100000 in
theorem carillonlaw00_Place.calls (a0 : Int) (a1 : Int) (r : Int) (w : World) (h : carillonlaw00_Place.f a0 a1 = some r) :
    Calls Try.prog 9 #[.int .i64 a0, .int .i64 a1] w fun e w' => e = .returned (.int .i64 r) ∧ Drawn0 w w' := by
  have H : (if a1 = 0 then (none) else (if (Int.tmod a0 a1) < 0 then (some (wrap64 ((Int.tmod a0 a1) + a1))) else (some (Int.tmod a0 a1)))) = some r := h
  clear h
  by_cases c3 : a1 = 0
  · rw [if_pos c3] at H
    exact absurd H (by simp)
  · rw [if_neg c3] at H
    have c3b0 : (a1 == 0) = false := beq_eq_false_iff_ne.mpr c3
    have c3b1 : (a1 != 0) = true := bne_iff_ne.mpr c3
    by_cases c4 : (Int.tmod a0 a1) < 0
    · rw [if_pos c4] at H
      have c4b0 : decide ((Int.tmod a0 a1) < 0) = true := decide_eq_true c4
      clear c4
      obtain rfl := Option.some.inj H
      go_enter Try.func9, Try.ntmps9
      go_wp2
      all_goals
        go_ret
        exact ⟨by first | rfl | (simp; done) | (simp [*]; done), by repeat (first | exact Drawn0.refl _ | apply Drawn0.step)⟩
    · rw [if_neg c4] at H
      have c4b0 : decide ((Int.tmod a0 a1) < 0) = false := decide_eq_false c4
      clear c4
      obtain rfl := Option.some.inj H
      go_enter Try.func9, Try.ntmps9
      go_wp2
      all_goals
        go_ret
        exact ⟨by first | rfl | (simp; done) | (simp [*]; done), by repeat (first | exact Drawn0.refl _ | apply Drawn0.step)⟩

/-! ### octets_Get: function 16 -/
def octets_Get.f (k : Nat) (l0 : List Int) (a1 : Int) (a2 : Int) : Option (Int × Bool) := if a2 < 1 then (some (0, false)) else (if a2 > 7 then (some (0, false)) else ((octets_none.f l0 a1 a2).bind fun t123 => (if t123 = true then (some (0, false)) else (if 0 ≤ a1 then (if a1 ≤ (wrap64 (a1 + a2)) then (if (wrap64 (a1 + a2)) ≤ (l0.length : Int) then ((octets_read.f k ((l0.take ((wrap64 (a1 + a2)) : Int).toNat).drop (a1 : Int).toNat)).bind fun t125 => (some (wrap64 (t125), true))) else (none)) else (none)) else (none)))))
theorem octets_Get.mono : ∀ a0 a1 a2 k, LeO (octets_Get.f k a0 a1 a2) (octets_Get.f (k + 1) a0 a1 a2) := by
  intro a0 a1 a2 k
  unfold octets_Get.f
  repeat' first
      | (with_reducible exact octets_read.mono _ _)
      | (with_reducible exact LeO.refl _)
      | (with_reducible exact LeO.none _)
      | (with_reducible refine LeO.ite ?_ ?_)
      | (with_reducible refine LeO.bind ?_ (fun _ => ?_))
      | exact octets_read.mono _ _
      | exact LeO.none _
      | refine LeO.ite ?_ ?_
      | refine LeO.bind ?_ (fun _ => ?_)
set_option maxHeartbeats 8000000 in
set_option maxRecDepth 100000 in
theorem octets_Get.calls (k : Nat) (A0 : Option Addr) (c0 : Nat) (l0 : List Int) (a1 : Int) (a2 : Int) (r1 : Int) (r2 : Bool) (w : World) (hr0 : Kd.C (Kd.int .u8) w A0 l0.length l0) (hc0 : l0.length ≤ c0) (h : octets_Get.f k l0 a1 a2 = some (r1, r2)) :
    Calls Try.prog 16 #[.slice A0 l0.length c0, .int .i64 a1, .int .i64 a2] w fun e w' => e = .returned (.tuple #[.int .i64 r1, .bool r2]) ∧ Drawn0 w w' := by
  have HR0 := Aside0.mk hr0
  have HC0 := Aside0.mk hc0
  clear hr0 hc0
  have H : (if a2 < 1 then (some (0, false)) else (if a2 > 7 then (some (0, false)) else ((octets_none.f l0 a1 a2).bind fun t123 => (if t123 = true then (some (0, false)) else (if 0 ≤ a1 then (if a1 ≤ (wrap64 (a1 + a2)) then (if (wrap64 (a1 + a2)) ≤ (l0.length : Int) then ((octets_read.f k ((l0.take ((wrap64 (a1 + a2)) : Int).toNat).drop (a1 : Int).toNat)).bind fun t125 => (some (wrap64 (t125), true))) else (none)) else (none)) else (none)))))) = some (r1, r2) := h
  clear h
  by_cases c4 : a2 < 1
  · rw [if_pos c4] at H
    have c4b0 : decide (a2 < 1) = true := decide_eq_true c4
    clear c4
    simp only [Option.some.injEq, Prod.mk.injEq] at H
    obtain ⟨rfl, rfl⟩ := H
    go_enter Try.func16, Try.ntmps16
    go_wp2
    go_ret2
    exact ⟨by first | rfl | (simp; done) | (simp [*]; done), by repeat (first | exact Drawn0.refl _ | apply Drawn0.step)⟩
  · rw [if_neg c4] at H
    have c4b0 : decide (a2 < 1) = false := decide_eq_false c4
    clear c4
    by_cases c5 : a2 > 7
    · rw [if_pos c5] at H
      have c5b0 : decide (7 < a2) = true := decide_eq_true c5
      clear c5
      simp only [Option.some.injEq, Prod.mk.injEq] at H
      obtain ⟨rfl, rfl⟩ := H
      go_enter Try.func16, Try.ntmps16
      go_wp2
      go_ret2
      exact ⟨by first | rfl | (simp; done) | (simp [*]; done), by repeat (first | exact Drawn0.refl _ | apply Drawn0.step)⟩
    · rw [if_neg c5] at H
      have c5b0 : decide (7 < a2) = false := decide_eq_false c5
      clear c5
      replace H := Option.bind_eq_some_iff.mp H
      obtain ⟨t123, A60, H⟩ := H
      replace H : (if t123 = true then (some (0, false)) else (if 0 ≤ a1 then (if a1 ≤ (wrap64 (a1 + a2)) then (if (wrap64 (a1 + a2)) ≤ (l0.length : Int) then ((octets_read.f k ((l0.take ((wrap64 (a1 + a2)) : Int).toNat).drop (a1 : Int).toNat)).bind fun t125 => (some (wrap64 (t125), true))) else (none)) else (none)) else (none))) = some (r1, r2) := H
      have A6 := Aside0.mk A60
      clear A60
      by_cases c7 : t123 = true
      · subst c7
        have H1 : (some (0, false)) = some (r1, r2) := by rw [if_pos rfl] at H; exact H
        clear H
        have H := H1
        clear H1
        simp only [Option.some.injEq, Prod.mk.injEq] at H
        obtain ⟨rfl, rfl⟩ := H
        go_enter Try.func16, Try.ntmps16
        go_wp2_with (first | (go_at_call 19; (with_reducible refine (octets_none.calls _ _ l0 a1 a2 true _ ?side1 ?side2 A6.out).mono ?_); (case side1 => repeat (first | exact HR0.out | (with_reducible refine Kd.C_alloc ?_ _) | (with_reducible refine Kd.C_drewN ?_ _) | (with_reducible refine Kd.C_drew ?_))); (case side2 => exact HC0.out); rintro e w' ⟨rfl, ⟨nd, rfl⟩⟩))
        go_ret2
        exact ⟨by first | rfl | (simp; done) | (simp [*]; done), by repeat (first | exact Drawn0.refl _ | apply Drawn0.step)⟩
      · replace c7 := Bool.eq_false_iff.mpr c7
        subst c7
        have H1 : (if 0 ≤ a1 then (if a1 ≤ (wrap64 (a1 + a2)) then (if (wrap64 (a1 + a2)) ≤ (l0.length : Int) then ((octets_read.f k ((l0.take ((wrap64 (a1 + a2)) : Int).toNat).drop (a1 : Int).toNat)).bind fun t125 => (some (wrap64 (t125), true))) else (none)) else (none)) else (none)) = some (r1, r2) := by rw [if_neg (show ¬ (false = true) by decide)] at H; exact H
        clear H
        have H := H1
        clear H1
        by_cases c8 : 0 ≤ a1
        · rw [if_pos c8] at H
          have c8b0 := eq_true c8
          have c8b1 : decide (0 ≤ a1) = true := decide_eq_true c8
          clear c8
          by_cases c9 : a1 ≤ (wrap64 (a1 + a2))
          · rw [if_pos c9] at H
            have c9b0 := eq_true c9
            have c9b1 : decide (a1 ≤ (wrap64 (a1 + a2))) = true := decide_eq_true c9
            by_cases c10 : (wrap64 (a1 + a2)) ≤ (l0.length : Int)
            · rw [if_pos c10] at H
              have c10b0 := eq_true c10
              have c10b1 : decide ((wrap64 (a1 + a2)) ≤ (l0.length : Int)) = true := decide_eq_true c10
              replace H := Option.bind_eq_some_iff.mp H
              obtain ⟨t125, A110, H⟩ := H
              replace H : (some (wrap64 (t125), true)) = some (r1, r2) := H
              have A11 := Aside0.mk A110
              clear A110
              simp only [Option.some.injEq, Prod.mk.injEq] at H
              obtain ⟨rfl, rfl⟩ := H
              go_enter Try.func16, Try.ntmps16
              go_wp2_with (first | (go_at_call 19; (with_reducible refine (octets_none.calls _ _ l0 a1 a2 false _ ?side1 ?side2 A6.out).mono ?_); (case side1 => repeat (first | exact HR0.out | (with_reducible refine Kd.C_alloc ?_ _) | (with_reducible refine Kd.C_drewN ?_ _) | (with_reducible refine Kd.C_drew ?_))); (case side2 => exact HC0.out); rintro e w' ⟨rfl, ⟨nd, rfl⟩⟩; obtain ⟨i012, hi012, _, hsz12, _⟩ := info_parts info5; obtain ⟨A12, hcut12, hA12, hC12⟩ := print_mid_of (P := Try.prog) (Value.int .u8) 0 24 5 .i64 .i64 Try.underlying24 hi012 hsz12 A0 c0 l0 a1 (wrap64 (a1 + a2)) (of_decide_eq_true (by first | (with_reducible assumption) | assumption)) (by first | omega | exact of_decide_eq_true (by first | (with_reducible assumption) | assumption)) (of_decide_eq_true (by first | (with_reducible assumption) | assumption)) HC0.out; have HR124 := Aside0.mk (Kd.C_of_reads (h1 := fun _ => rfl) (hA12 _ (Kd.reads_of_C HR0.out))); have HC124 := Aside0.mk hC12; clear hA12 hC12 hi012 hsz12) | ((with_reducible refine gate_callee (f := 20) rfl ?_); refine goesL_ (some 26) rfl rfl Try.func20 (by kernel_rfl) rfl #[.slice A12 ((l0.take ((wrap64 (a1 + a2)) : Int).toNat).drop (a1 : Int).toNat).length (c0 - a1.toNat)] rfl (by (try simp only [List.map_toArray, List.map_cons, List.map_nil]); first | done | (rw [show ((l0.take ((wrap64 (a1 + a2)) : Int).toNat).drop (a1 : Int).toNat).length = ((wrap64 (a1 + a2)).toNat - a1.toNat) from (by rw [List.length_drop, List.length_take]; have h_ : ((wrap64 (a1 + a2)) : Int) ≤ (l0.length : Int) := of_decide_eq_true (by first | (with_reducible assumption) | assumption); omega)] <;> rfl) | rfl | (simp only [List.length_drop, List.length_take]; rfl)) ?_; (with_reducible refine (octets_read.calls k _ _ ((l0.take ((wrap64 (a1 + a2)) : Int).toNat).drop (a1 : Int).toNat) t125 _ ?side1 ?side2 A11.out).mono ?_); (case side1 => repeat (first | exact HR124.out | (with_reducible refine Kd.C_alloc ?_ _) | (with_reducible refine Kd.C_drewN ?_ _) | (with_reducible refine Kd.C_drew ?_))); (case side2 => exact HC124.out); rintro e w' ⟨rfl, ⟨nd, rfl⟩⟩; refine ⟨_, rfl, ?_⟩))
              go_ret2
              exact ⟨by first | rfl | (simp; done) | (simp [*]; done), by repeat (first | exact Drawn0.refl _ | apply Drawn0.step)⟩
            · rw [if_neg c10] at H
              exact absurd H (by simp)
          · rw [if_neg c9] at H
            exact absurd H (by simp)
        · rw [if_neg c8] at H
          exact absurd H (by simp)

-- NOT PRINTED: function 6 (carillonlaw01_OctetsMany)

end Go.Proofs.Ythdigeknonamaaa.P
