/- Functions and loops of the given program as Lean functions, and that the code comes to what they say: written by this session's own program; Lean checks it. -/
import Derived.Test.YteahnnhekfkabaaPx0
import Derived.Test.YteahnnhekfkabaaPx1
import Derived.Test.YteahnnhekfkabaaPx3
import Derived.Test.YteahnnhekfkabaaPx5
namespace Go.Proofs.Yteahnnhekfkabaa.P
open Go.RowKit Go.Proofs.YteahnnhekfkabaaW.PrintWords Go.Proofs.YteahnnhekfkabaaW.PrintLast Go.Proofs.YteahnnhekfkabaaW.PrintMore
attribute [local go_sem] max2_int min2_int max_two min_two max_three min_three max_four min_four   -- for this text's walks alone
set_option linter.unusedVariables false
set_option linter.unusedSimpArgs false

/-! ### carillonlaw02_StampEnds: function 11: by our own printer -/
def carillonlaw02_StampEnds.f (k : Nat)  : Option (Bool) := (stamp_Put.f [] 4000000000000000).bind fun t5 => ((stamp_Get.f k t5 0).bind fun t6 => ((stamp_Put.f [] 4000000000000000).bind fun t10 => (if (t10.length : Int) = 10 then (if 9 < (t10.length : Int) then ((stamp_Get.f k (t10.set (9 : Int).toNat (IntKind.u8.wrap ((rd t10 9) + 1))) 0).bind fun t24 => ((stamp_Put.f [] 999999999).bind fun t28 => (if (t28.length : Int) = 10 then ((stamp_Get.f k t28 0).bind fun t37 => (if 6 < (t28.length : Int) then ((stamp_Get.f k (t28.set (6 : Int).toNat (IntKind.u8.wrap ((rd t28 6) + 1))) 0).bind fun t46 => (if 9 ≤ ((t28.set (6 : Int).toNat (IntKind.u8.wrap ((rd t28 6) + 1))).length : Int) then ((stamp_Get.f k ((t28.set (6 : Int).toNat (IntKind.u8.wrap ((rd t28 6) + 1))).take (9 : Int).toNat) 0).bind fun t50 => (if t6.2 = true then (if t6.1 = 4000000000000000 then (if t24.2 = true then (some false) else (if t37.2 = true then (if t37.1 = 999999999 then (if t46.2 = true then (some false) else (if t50.2 = true then (some false) else ((stamp_Put.f [] (-1)).bind fun t54 => ((stamp_Put.f [] 0).bind fun t55 => (if ((strOfNums t54).toList == (strOfNums t55).toList) = true then ((carillonlaw02_awake.f ).bind fun t56 => (some t56)) else (some false)))))) else (some false)) else (some false))) else (some false)) else (some false))) else (none))) else (none))) else (some false)))) else (none)) else (some false))))
open Go.Proofs.Yteahnnhekfkabaa.E in
set_option maxHeartbeats 8000000 in
set_option maxRecDepth 100000 in
theorem carillonlaw02_StampEnds.calls (k : Nat) (w : World) (h : carillonlaw02_StampEnds.f k  = some true) :
    Calls Try.prog 11 #[] w fun e w' => e = .returned (.bool true) ∧ Below w.heap.size w w' := by
  have H := h
  clear h
  unfold carillonlaw02_StampEnds.f at H
  obtain ⟨t5, At5, H⟩ := Option.bind_eq_some_iff.mp H
  obtain ⟨t6, At6, H⟩ := Option.bind_eq_some_iff.mp H
  obtain ⟨t6_1, t6_2⟩ := t6
  (try dsimp only at H)
  obtain ⟨t10, At10, H⟩ := Option.bind_eq_some_iff.mp H
  by_cases c1 : (t10.length : Int) = 10
  · rw [if_pos c1] at H
    by_cases c2 : 9 < (t10.length : Int)
    · rw [if_pos c2] at H
      obtain ⟨t24, At24, H⟩ := Option.bind_eq_some_iff.mp H
      obtain ⟨t24_1, t24_2⟩ := t24
      (try dsimp only at H)
      obtain ⟨t28, At28, H⟩ := Option.bind_eq_some_iff.mp H
      by_cases c3 : (t28.length : Int) = 10
      · rw [if_pos c3] at H
        obtain ⟨t37, At37, H⟩ := Option.bind_eq_some_iff.mp H
        obtain ⟨t37_1, t37_2⟩ := t37
        (try dsimp only at H)
        by_cases c4 : 6 < (t28.length : Int)
        · rw [if_pos c4] at H
          obtain ⟨t46, At46, H⟩ := Option.bind_eq_some_iff.mp H
          obtain ⟨t46_1, t46_2⟩ := t46
          (try dsimp only at H)
          by_cases c5 : 9 ≤ ((t28.set (6 : Int).toNat (IntKind.u8.wrap ((rd t28 6) + 1))).length : Int)
          · rw [if_pos c5] at H
            obtain ⟨t50, At50, H⟩ := Option.bind_eq_some_iff.mp H
            obtain ⟨t50_1, t50_2⟩ := t50
            (try dsimp only at H)
            by_cases c6 : t6_2 = true
            · rw [if_pos c6] at H
              by_cases c7 : t6_1 = 4000000000000000
              · rw [if_pos c7] at H
                by_cases c8 : t24_2 = true
                · rw [if_pos c8] at H
                  exact absurd H (by simp)
                · rw [if_neg c8] at H
                  by_cases c9 : t37_2 = true
                  · rw [if_pos c9] at H
                    by_cases c10 : t37_1 = 999999999
                    · rw [if_pos c10] at H
                      by_cases c11 : t46_2 = true
                      · rw [if_pos c11] at H
                        exact absurd H (by simp)
                      · rw [if_neg c11] at H
                        by_cases c12 : t50_2 = true
                        · rw [if_pos c12] at H
                          exact absurd H (by simp)
                        · rw [if_neg c12] at H
                          obtain ⟨t54, At54, H⟩ := Option.bind_eq_some_iff.mp H
                          obtain ⟨t55, At55, H⟩ := Option.bind_eq_some_iff.mp H
                          by_cases c13 : ((strOfNums t54).toList == (strOfNums t55).toList) = true
                          · rw [if_pos c13] at H
                            obtain ⟨t56, At56, H⟩ := Option.bind_eq_some_iff.mp H
                            have hret := Option.some.inj H
                            clear H
                            refine calls_of_wp (fn := Try.f11) (by kernel_rfl) rfl ?_
                            have hS := St.enter #[] 91 (by simp) [] (by simp)
                            have HB0 := Below.refl w.heap.size w
                            refine wp_seq_k (fun K1 hK1 => ?_)
                            refine reg_seq (N := 91) (bs := []) (I := fun x => Below w.heap.size w x) (ps := [IsV (.bool false)]) (by kernel_rfl) ?_ ?_ rfl hS HB0 ?_ ?_
                            · exact fun x y hI hb => below_step hI hb
                            · exact AllStay.cons (Stays.v _) (AllStay.nil)
                            · refine Steps.cons (fun a w hS hI hp => ok_on rfl (does_val (x_assign rfl (rfl)) rfl)) ?_
                              exact Steps.nil
                            clear hS
                            intro at2 w3 hS hI hp
                            have hBw3_w := hI
                            have hv0 : sl _ 0 = .bool false := hp 0 (by decide)
                            have hBw3_w3 := Below.refl w3.heap.size w3
                            have hS := hS.cons hv0
                            clear hp hI hv0
                            refine hK1 _ _ ?_
                            clear hK1 K1
                            refine wp_seq_k (fun K4 hK4 => ?_)
                            refine reg_seq (N := 91) (bs := [(0, .bool false)]) (I := fun x => Below w.heap.size w x ∧ Below w3.heap.size w3 x) (ps := [IsR (Kd.int .u8) 5 w3.heap.size t5, IsV (.tuple #[.int .i64 t6_1, .bool t6_2]), IsV (.tuple #[.int .i64 t6_1, .bool t6_2]), IsV (.int .i64 t6_1), IsV (.bool t6_2), IsV (.int .i64 t6_1), IsV (.bool t6_2)]) (by kernel_rfl) ?_ ?_ rfl hS ⟨hBw3_w, hBw3_w3⟩ ?_ ?_
                            · exact fun x y hI hb => ⟨below_step hI.1 hb, below_step hI.2 hb⟩
                            · exact AllStay.cons (Stays.r _ _ _ _) (AllStay.cons (Stays.v _) (AllStay.cons (Stays.v _) (AllStay.cons (Stays.v _) (AllStay.cons (Stays.v _) (AllStay.cons (Stays.v _) (AllStay.cons (Stays.v _) (AllStay.nil)))))))
                            · refine Steps.cons (fun a w hS hI hp => ok_on rfl (does_call (by kernel_rfl) (ar2 (rfl) (rfl)) ((stamp_Put.calls _ _ [] 4000000000000000 t5 _ (Kd.C_nil _ _) (Nat.le_refl _) At5).mono fun _ _ h => h.elim fun v0 h => ⟨v0, h.1, h.2.2, Kd.R_lower h.2.1 hI.2.size⟩))) ?_
                              refine Steps.cons (fun a w hS hI hp => ok_on rfl ((IsC.of_r ((hp.get 0 (by rfl) rfl rfl))).elim fun A_ h_ => h_.elim fun c_ h_ => h_.elim fun hv_ h_ => h_.elim fun hl_ hc_ => does_call (by kernel_rfl) (ar2 (hv_) (rfl)) ((stamp_Get.calls k _ _ t5 0 t6_1 t6_2 _ hc_ hl_ At6).mono fun _ _ h => ⟨_, h.1, h.2.below, rfl⟩))) ?_
                              refine Steps.cons (fun a w hS hI hp => ok_on rfl (does_val (x_move rfl ((hp.get 1 (by rfl) rfl rfl))) rfl)) ?_
                              refine Steps.cons (fun a w hS hI hp => ok_on rfl (does_val (x_extract rfl ((hp.get 2 (by rfl) rfl rfl)) rfl) rfl)) ?_
                              refine Steps.cons (fun a w hS hI hp => ok_on rfl (does_val (x_extract rfl ((hp.get 2 (by rfl) rfl rfl)) rfl) rfl)) ?_
                              refine Steps.cons (fun a w hS hI hp => ok_on rfl (does_val (x_assign rfl ((hp.get 3 (by rfl) rfl rfl))) rfl)) ?_
                              refine Steps.cons (fun a w hS hI hp => ok_on rfl (does_val (x_assign rfl ((hp.get 4 (by rfl) rfl rfl))) rfl)) ?_
                              exact Steps.nil
                            clear hS
                            intro at7 w8 hS hI hp
                            have hBw8_w := hI.1
                            have hBw8_w3 := hI.2
                            have hv1 : sl _ 1 = .int .i64 t6_1 := hp 5 (by decide)
                            have hv2 : sl _ 2 = .bool t6_2 := hp 6 (by decide)
                            have hBw8_w8 := Below.refl w8.heap.size w8
                            have hS := hS.cons hv1
                            have hS := hS.cons hv2
                            clear hp hI hv1 hv2
                            refine hK4 _ _ ?_
                            clear hK4 K4
                            refine wp_seq_k (fun K9 hK9 => ?_)
                            refine reg_seq (N := 91) (bs := [(2, .bool t6_2), (1, .int .i64 t6_1), (0, .bool false)]) (I := fun x => Below w.heap.size w x ∧ Below w8.heap.size w8 x) (ps := [IsR (Kd.int .u8) 5 w8.heap.size t10, IsR (Kd.int .u8) 5 w8.heap.size t10]) (by kernel_rfl) ?_ ?_ rfl hS ⟨hBw8_w, hBw8_w8⟩ ?_ ?_
                            · exact fun x y hI hb => ⟨below_step hI.1 hb, below_step hI.2 hb⟩
                            · exact AllStay.cons (Stays.r _ _ _ _) (AllStay.cons (Stays.r _ _ _ _) (AllStay.nil))
                            · refine Steps.cons (fun a w hS hI hp => ok_on rfl (does_call (by kernel_rfl) (ar2 (rfl) (rfl)) ((stamp_Put.calls _ _ [] 4000000000000000 t10 _ (Kd.C_nil _ _) (Nat.le_refl _) At10).mono fun _ _ h => h.elim fun v0 h => ⟨v0, h.1, h.2.2, Kd.R_lower h.2.1 hI.2.size⟩))) ?_
                              refine Steps.cons (fun a w hS hI hp => ok_on rfl (does_val (x_assign rfl rfl) ((hp.get 0 (by rfl) rfl rfl)))) ?_
                              exact Steps.nil
                            clear hS
                            intro at11 w12 hS hI hp
                            have hBw12_w := hI.1
                            have hBw12_w8 := hI.2
                            obtain ⟨A13, C13, hv3, hl13, hc13⟩ := Kd.R_reads (show Kd.R (Kd.int .u8) 5 w12 w8.heap.size (fun _ => True) (sl _ 3) t10 from hp 1 (by decide))
                            have ho13 : Kd.R (Kd.int .u8) 5 w12 w8.heap.size (fun _ => True) (.slice A13 t10.length C13) t10 := hv3 ▸ (hp 1 (by decide))
                            have hBw12_w12 := Below.refl w12.heap.size w12
                            have hS := hS.cons hv3
                            clear hp hI hv3
                            refine hK9 _ _ ?_
                            clear hK9 K9
                            refine wp_seq_k (fun K14 hK14 => ?_)
                            refine wp_seq_k (fun K15 hK15 => ?_)
                            refine reg_seq (N := 91) (bs := [(3, .slice A13 t10.length C13), (2, .bool t6_2), (1, .int .i64 t6_1), (0, .bool false)]) (I := fun x => Below w.heap.size w x ∧ Below w8.heap.size w8 x ∧ Below w12.heap.size w12 x) (ps := [IsV (.slice A13 t10.length C13), IsV (.int .i64 (t10.length : Int)), IsV (.bool (!decide ((t10.length : Int) = 10)))]) (by kernel_rfl) ?_ ?_ rfl hS ⟨hBw12_w, hBw12_w8, hBw12_w12⟩ ?_ ?_
                            · exact fun x y hI hb => ⟨below_step hI.1 hb, below_step hI.2.1 hb, below_step hI.2.2 hb⟩
                            · exact AllStay.cons (Stays.v _) (AllStay.cons (Stays.v _) (AllStay.cons (Stays.v _) (AllStay.nil)))
                            · refine Steps.cons (fun a w hS hI hp => ok_on rfl (does_val (x_move rfl (hS.get 0 rfl)) rfl)) ?_
                              refine Steps.cons (fun a w hS hI hp => ok_on rfl (does_val (x_len (e := 5) rfl (by kernel_rfl) ((hp.get 0 (by rfl) rfl rfl))) rfl)) ?_
                              refine Steps.cons (fun a w hS hI hp => ok_on rfl (does_val (x_bin rfl ((hp.get 1 (by rfl) rfl rfl)) (rfl) (b_neq _ _ _ _ _ _)) rfl)) ?_
                              exact Steps.nil
                            clear hS
                            intro at16 w17 hS hI hp
                            have hBw17_w := hI.1
                            have hBw17_w8 := hI.2.1
                            have hBw17_w12 := hI.2.2
                            have hv21 : sl _ 21 = .bool (!decide ((t10.length : Int) = 10)) := hp 2 (by decide)
                            have hBw17_w17 := Below.refl w17.heap.size w17
                            have hS := hS.cons hv21
                            clear hp hI hv21
                            refine hK15 _ _ ?_
                            clear hK15 K15
                            refine wp_cond_false ((hS.get 0 rfl).trans (bF (congrArg (!·) (decide_eq_true c1)))) ?_
                            refine wp_skip ?_
                            refine hK14 _ _ ?_
                            clear hK14 K14
                            refine wp_seq_k (fun K18 hK18 => ?_)
                            refine reg_seq_tail 5 (N := 91) (bs := [(21, .bool (!decide ((t10.length : Int) = 10))), (3, .slice A13 t10.length C13), (2, .bool t6_2), (1, .int .i64 t6_1), (0, .bool false)]) (I := fun x => Below w.heap.size w x ∧ Below w8.heap.size w8 x ∧ Below w12.heap.size w12 x ∧ Below w17.heap.size w17 x) (ps := [IsV (.slice A13 t10.length C13), IsA (.int .u8 (rd t10 9)), IsV (.int .u8 (rd t10 9)), IsV (.int .u8 (IntKind.u8.wrap ((rd t10 9) + 1))), IsP A13 (9 : Int).toNat]) (by kernel_rfl) ?_ ?_ rfl hS ⟨hBw17_w, hBw17_w8, hBw17_w12, hBw17_w17⟩ ?_ ?_
                            · exact fun x y hI hb => ⟨below_step hI.1 hb, below_step hI.2.1 hb, below_step hI.2.2.1 hb, below_step hI.2.2.2 hb⟩
                            · exact AllStay.cons (Stays.v _) (AllStay.cons (Stays.a _) (AllStay.cons (Stays.v _) (AllStay.cons (Stays.v _) (AllStay.cons (stays_p _ _) (AllStay.nil)))))
                            · refine Steps.cons (fun a w hS hI hp => ok_on rfl (does_val (x_move rfl (hS.get 1 rfl)) rfl)) ?_
                              refine Steps.cons (fun a w hS hI hp => ok_on rfl (does_index (e := 5) (xs := t10) rfl ((hp.get 0 (by rfl) rfl rfl)) (rfl) (by kernel_rfl) (by kernel_rfl) (by decide) c2 c2 ((Kd.C_below hc13 hI.2.2.1)))) ?_
                              refine Steps.cons (fun a w hS hI hp => ok_on rfl (((hp.get 1 (by rfl) rfl rfl)).elim fun _ h_ => does_val (x_load1 (d := .int .u8) rfl h_.1 (by kernel_rfl) rfl h_.2.2) rfl)) ?_
                              refine Steps.cons (fun a w hS hI hp => ok_on rfl (does_val (x_bin rfl ((hp.get 2 (by rfl) rfl rfl)) (rfl) (b_addk _ _ _ _ _ _)) rfl)) ?_
                              refine Steps.cons (fun a w hS hI hp => ok_on rfl (does_place (e := 5) (xs := t10) (i := 9) rfl ((hp.get 0 (by rfl) rfl rfl)) (rfl) (by kernel_rfl) (by kernel_rfl) (by decide) c2 (Kd.R_below ho13 hI.2.2.1))) ?_
                              exact Steps.nil
                            clear hS
                            intro at19 w20 hS hI hp
                            have hBw20_w := hI.1
                            have hBw20_w8 := hI.2.1
                            have hBw20_w12 := hI.2.2.1
                            have hBw20_w17 := hI.2.2.2
                            have hv25 : sl _ 25 = .int .u8 (IntKind.u8.wrap ((rd t10 9) + 1)) := hp 3 (by decide)
                            have hv26 : IsP A13 (9 : Int).toNat (sl _ 26) w20 := hp 4 (by decide)
                            have hpw20_26 := hv26
                            have hBw20_w20 := Below.refl w20.heap.size w20
                            have hS := hS.cons hv25
                            clear hp hI hv25 hv26
                            show wpList _ _ _ [_] _ _
                            refine list_step rfl (does_put (e := 5) (xs := t10) (i := 9) (u := (IntKind.u8.wrap ((rd t10 9) + 1))) rfl (show IsP _ _ (sl _ 26) _ from hpw20_26) (hS.get 0 rfl) (by kernel_rfl) (by decide) c2 (Kd.R_below ho13 hBw20_w12)) ?_
                            rintro vw21 w21 ⟨rfl, g22, hA22, hge22, hlt22, hT, ho22⟩
                            have hBw21_w := hT.below hBw20_w (Nat.le_trans (hBw8_w).size hge22) (hBw20_w).size
                            have hBw21_w8 := hT.below hBw20_w8 hge22 (hBw20_w8).size
                            have hc22 := (Kd.R_reads' ho22).2.2
                            have hn22 : ((t10.set (9 : Int).toNat (IntKind.u8.wrap ((rd t10 9) + 1))).length : Nat) = t10.length := by simp [List.length_set]
                            replace hS := ((((((hS.nil).cons (hS.get 5 rfl)).cons (hS.get 4 rfl)).cons (hS.get 3 rfl)).cons ((hS.get 2 rfl).trans (congrArg (fun n => Value.slice A13 n C13) hn22.symm))).cons (hS.get 1 rfl)).cons (hS.get 0 rfl)
                            have hBw21_w21 := Below.refl w21.heap.size w21
                            clear hT
                            refine wpList_nil ?_
                            refine hK18 _ _ ?_
                            clear hK18 K18
                            refine wp_seq_k (fun K23 hK23 => ?_)
                            refine reg_seq (N := 91) (bs := [(25, .int .u8 (IntKind.u8.wrap ((rd t10 9) + 1))), (21, .bool (!decide ((t10.length : Int) = 10))), (3, .slice A13 ((t10.set (9 : Int).toNat (IntKind.u8.wrap ((rd t10 9) + 1))).length) C13), (2, .bool t6_2), (1, .int .i64 t6_1), (0, .bool false)]) (I := fun x => Below w.heap.size w x ∧ Below w8.heap.size w8 x ∧ Below w21.heap.size w21 x) (ps := [IsV (.slice A13 ((t10.set (9 : Int).toNat (IntKind.u8.wrap ((rd t10 9) + 1))).length) C13), IsV (.tuple #[.int .i64 t24_1, .bool t24_2]), IsV (.tuple #[.int .i64 t24_1, .bool t24_2]), IsV (.int .i64 t24_1), IsV (.bool t24_2), IsV (.int .i64 t24_1), IsV (.bool t24_2)]) (by kernel_rfl) ?_ ?_ rfl hS ⟨hBw21_w, hBw21_w8, hBw21_w21⟩ ?_ ?_
                            · exact fun x y hI hb => ⟨below_step hI.1 hb, below_step hI.2.1 hb, below_step hI.2.2 hb⟩
                            · exact AllStay.cons (Stays.v _) (AllStay.cons (Stays.v _) (AllStay.cons (Stays.v _) (AllStay.cons (Stays.v _) (AllStay.cons (Stays.v _) (AllStay.cons (Stays.v _) (AllStay.cons (Stays.v _) (AllStay.nil)))))))
                            · refine Steps.cons (fun a w hS hI hp => ok_on rfl (does_val (x_move rfl (hS.get 2 rfl)) rfl)) ?_
                              refine Steps.cons (fun a w hS hI hp => ok_on rfl (does_call (by kernel_rfl) (ar2 ((hp.get 0 (by rfl) rfl rfl)) (rfl)) ((stamp_Get.calls k _ _ (t10.set (9 : Int).toNat (IntKind.u8.wrap ((rd t10 9) + 1))) 0 t24_1 t24_2 _ (Kd.C_below hc22 hI.2.2) (hn22 ▸ hl13) At24).mono fun _ _ h => ⟨_, h.1, h.2.below, rfl⟩))) ?_
                              refine Steps.cons (fun a w hS hI hp => ok_on rfl (does_val (x_move rfl ((hp.get 1 (by rfl) rfl rfl))) rfl)) ?_
                              refine Steps.cons (fun a w hS hI hp => ok_on rfl (does_val (x_extract rfl ((hp.get 2 (by rfl) rfl rfl)) rfl) rfl)) ?_
                              refine Steps.cons (fun a w hS hI hp => ok_on rfl (does_val (x_extract rfl ((hp.get 2 (by rfl) rfl rfl)) rfl) rfl)) ?_
                              refine Steps.cons (fun a w hS hI hp => ok_on rfl (does_val (x_assign rfl ((hp.get 3 (by rfl) rfl rfl))) rfl)) ?_
                              refine Steps.cons (fun a w hS hI hp => ok_on rfl (does_val (x_assign rfl ((hp.get 4 (by rfl) rfl rfl))) rfl)) ?_
                              exact Steps.nil
                            clear hS
                            intro at25 w26 hS hI hp
                            have hBw26_w := hI.1
                            have hBw26_w8 := hI.2.1
                            have hBw26_w21 := hI.2.2
                            replace hS := ((((hS.nil).cons (hS.get 5 rfl)).cons (hS.get 4 rfl)).cons (hS.get 3 rfl)).cons (hS.get 1 rfl)
                            have hv5 : sl _ 5 = .bool t24_2 := hp 6 (by decide)
                            have hBw26_w26 := Below.refl w26.heap.size w26
                            have hS := hS.cons hv5
                            clear hp hI hv5
                            refine hK23 _ _ ?_
                            clear hK23 K23
                            refine wp_seq_k (fun K27 hK27 => ?_)
                            refine reg_seq (N := 91) (bs := [(5, .bool t24_2), (21, .bool (!decide ((t10.length : Int) = 10))), (2, .bool t6_2), (1, .int .i64 t6_1), (0, .bool false)]) (I := fun x => Below w.heap.size w x ∧ Below w26.heap.size w26 x) (ps := [IsR (Kd.int .u8) 5 w26.heap.size t28, IsR (Kd.int .u8) 5 w26.heap.size t28]) (by kernel_rfl) ?_ ?_ rfl hS ⟨hBw26_w, hBw26_w26⟩ ?_ ?_
                            · exact fun x y hI hb => ⟨below_step hI.1 hb, below_step hI.2 hb⟩
                            · exact AllStay.cons (Stays.r _ _ _ _) (AllStay.cons (Stays.r _ _ _ _) (AllStay.nil))
                            · refine Steps.cons (fun a w hS hI hp => ok_on rfl (does_call (by kernel_rfl) (ar2 (rfl) (rfl)) ((stamp_Put.calls _ _ [] 999999999 t28 _ (Kd.C_nil _ _) (Nat.le_refl _) At28).mono fun _ _ h => h.elim fun v0 h => ⟨v0, h.1, h.2.2, Kd.R_lower h.2.1 hI.2.size⟩))) ?_
                              refine Steps.cons (fun a w hS hI hp => ok_on rfl (does_val (x_assign rfl rfl) ((hp.get 0 (by rfl) rfl rfl)))) ?_
                              exact Steps.nil
                            clear hS
                            intro at29 w30 hS hI hp
                            have hBw30_w := hI.1
                            have hBw30_w26 := hI.2
                            obtain ⟨A31, C31, hv6, hl31, hc31⟩ := Kd.R_reads (show Kd.R (Kd.int .u8) 5 w30 w26.heap.size (fun _ => True) (sl _ 6) t28 from hp 1 (by decide))
                            have ho31 : Kd.R (Kd.int .u8) 5 w30 w26.heap.size (fun _ => True) (.slice A31 t28.length C31) t28 := hv6 ▸ (hp 1 (by decide))
                            have hBw30_w30 := Below.refl w30.heap.size w30
                            have hS := hS.cons hv6
                            clear hp hI hv6
                            refine hK27 _ _ ?_
                            clear hK27 K27
                            refine wp_seq_k (fun K32 hK32 => ?_)
                            refine wp_seq_k (fun K33 hK33 => ?_)
                            refine reg_seq (N := 91) (bs := [(6, .slice A31 t28.length C31), (5, .bool t24_2), (21, .bool (!decide ((t10.length : Int) = 10))), (2, .bool t6_2), (1, .int .i64 t6_1), (0, .bool false)]) (I := fun x => Below w.heap.size w x ∧ Below w26.heap.size w26 x ∧ Below w30.heap.size w30 x) (ps := [IsV (.slice A31 t28.length C31), IsV (.int .i64 (t28.length : Int)), IsV (.bool (!decide ((t28.length : Int) = 10)))]) (by kernel_rfl) ?_ ?_ rfl hS ⟨hBw30_w, hBw30_w26, hBw30_w30⟩ ?_ ?_
                            · exact fun x y hI hb => ⟨below_step hI.1 hb, below_step hI.2.1 hb, below_step hI.2.2 hb⟩
                            · exact AllStay.cons (Stays.v _) (AllStay.cons (Stays.v _) (AllStay.cons (Stays.v _) (AllStay.nil)))
                            · refine Steps.cons (fun a w hS hI hp => ok_on rfl (does_val (x_move rfl (hS.get 0 rfl)) rfl)) ?_
                              refine Steps.cons (fun a w hS hI hp => ok_on rfl (does_val (x_len (e := 5) rfl (by kernel_rfl) ((hp.get 0 (by rfl) rfl rfl))) rfl)) ?_
                              refine Steps.cons (fun a w hS hI hp => ok_on rfl (does_val (x_bin rfl ((hp.get 1 (by rfl) rfl rfl)) (rfl) (b_neq _ _ _ _ _ _)) rfl)) ?_
                              exact Steps.nil
                            clear hS
                            intro at34 w35 hS hI hp
                            have hBw35_w := hI.1
                            have hBw35_w26 := hI.2.1
                            have hBw35_w30 := hI.2.2
                            have hv35 : sl _ 35 = .bool (!decide ((t28.length : Int) = 10)) := hp 2 (by decide)
                            have hBw35_w35 := Below.refl w35.heap.size w35
                            have hS := hS.cons hv35
                            clear hp hI hv35
                            refine hK33 _ _ ?_
                            clear hK33 K33
                            refine wp_cond_false ((hS.get 0 rfl).trans (bF (congrArg (!·) (decide_eq_true c3)))) ?_
                            refine wp_skip ?_
                            refine hK32 _ _ ?_
                            clear hK32 K32
                            refine wp_seq_k (fun K36 hK36 => ?_)
                            refine reg_seq (N := 91) (bs := [(35, .bool (!decide ((t28.length : Int) = 10))), (6, .slice A31 t28.length C31), (5, .bool t24_2), (21, .bool (!decide ((t10.length : Int) = 10))), (2, .bool t6_2), (1, .int .i64 t6_1), (0, .bool false)]) (I := fun x => Below w.heap.size w x ∧ Below w26.heap.size w26 x ∧ Below w30.heap.size w30 x ∧ Below w35.heap.size w35 x) (ps := [IsV (.slice A31 t28.length C31), IsV (.tuple #[.int .i64 t37_1, .bool t37_2]), IsV (.tuple #[.int .i64 t37_1, .bool t37_2]), IsV (.int .i64 t37_1), IsV (.bool t37_2), IsV (.int .i64 t37_1), IsV (.bool t37_2)]) (by kernel_rfl) ?_ ?_ rfl hS ⟨hBw35_w, hBw35_w26, hBw35_w30, hBw35_w35⟩ ?_ ?_
                            · exact fun x y hI hb => ⟨below_step hI.1 hb, below_step hI.2.1 hb, below_step hI.2.2.1 hb, below_step hI.2.2.2 hb⟩
                            · exact AllStay.cons (Stays.v _) (AllStay.cons (Stays.v _) (AllStay.cons (Stays.v _) (AllStay.cons (Stays.v _) (AllStay.cons (Stays.v _) (AllStay.cons (Stays.v _) (AllStay.cons (Stays.v _) (AllStay.nil)))))))
                            · refine Steps.cons (fun a w hS hI hp => ok_on rfl (does_val (x_move rfl (hS.get 1 rfl)) rfl)) ?_
                              refine Steps.cons (fun a w hS hI hp => ok_on rfl (does_call (by kernel_rfl) (ar2 ((hp.get 0 (by rfl) rfl rfl)) (rfl)) ((stamp_Get.calls k _ _ t28 0 t37_1 t37_2 _ (Kd.C_below hc31 hI.2.2.1) hl31 At37).mono fun _ _ h => ⟨_, h.1, h.2.below, rfl⟩))) ?_
                              refine Steps.cons (fun a w hS hI hp => ok_on rfl (does_val (x_move rfl ((hp.get 1 (by rfl) rfl rfl))) rfl)) ?_
                              refine Steps.cons (fun a w hS hI hp => ok_on rfl (does_val (x_extract rfl ((hp.get 2 (by rfl) rfl rfl)) rfl) rfl)) ?_
                              refine Steps.cons (fun a w hS hI hp => ok_on rfl (does_val (x_extract rfl ((hp.get 2 (by rfl) rfl rfl)) rfl) rfl)) ?_
                              refine Steps.cons (fun a w hS hI hp => ok_on rfl (does_val (x_assign rfl ((hp.get 3 (by rfl) rfl rfl))) rfl)) ?_
                              refine Steps.cons (fun a w hS hI hp => ok_on rfl (does_val (x_assign rfl ((hp.get 4 (by rfl) rfl rfl))) rfl)) ?_
                              exact Steps.nil
                            clear hS
                            intro at38 w39 hS hI hp
                            have hBw39_w := hI.1
                            have hBw39_w26 := hI.2.1
                            have hBw39_w30 := hI.2.2.1
                            have hBw39_w35 := hI.2.2.2
                            have hv7 : sl _ 7 = .int .i64 t37_1 := hp 5 (by decide)
                            have hv8 : sl _ 8 = .bool t37_2 := hp 6 (by decide)
                            have hBw39_w39 := Below.refl w39.heap.size w39
                            have hS := hS.cons hv7
                            have hS := hS.cons hv8
                            clear hp hI hv7 hv8
                            refine hK36 _ _ ?_
                            clear hK36 K36
                            refine wp_seq_k (fun K40 hK40 => ?_)
                            refine reg_seq_tail 5 (N := 91) (bs := [(8, .bool t37_2), (7, .int .i64 t37_1), (35, .bool (!decide ((t28.length : Int) = 10))), (6, .slice A31 t28.length C31), (5, .bool t24_2), (21, .bool (!decide ((t10.length : Int) = 10))), (2, .bool t6_2), (1, .int .i64 t6_1), (0, .bool false)]) (I := fun x => Below w.heap.size w x ∧ Below w26.heap.size w26 x ∧ Below w30.heap.size w30 x ∧ Below w39.heap.size w39 x) (ps := [IsV (.slice A31 t28.length C31), IsA (.int .u8 (rd t28 6)), IsV (.int .u8 (rd t28 6)), IsV (.int .u8 (IntKind.u8.wrap ((rd t28 6) + 1))), IsP A31 (6 : Int).toNat]) (by kernel_rfl) ?_ ?_ rfl hS ⟨hBw39_w, hBw39_w26, hBw39_w30, hBw39_w39⟩ ?_ ?_
                            · exact fun x y hI hb => ⟨below_step hI.1 hb, below_step hI.2.1 hb, below_step hI.2.2.1 hb, below_step hI.2.2.2 hb⟩
                            · exact AllStay.cons (Stays.v _) (AllStay.cons (Stays.a _) (AllStay.cons (Stays.v _) (AllStay.cons (Stays.v _) (AllStay.cons (stays_p _ _) (AllStay.nil)))))
                            · refine Steps.cons (fun a w hS hI hp => ok_on rfl (does_val (x_move rfl (hS.get 3 rfl)) rfl)) ?_
                              refine Steps.cons (fun a w hS hI hp => ok_on rfl (does_index (e := 5) (xs := t28) rfl ((hp.get 0 (by rfl) rfl rfl)) (rfl) (by kernel_rfl) (by kernel_rfl) (by decide) c4 c4 ((Kd.C_below hc31 hI.2.2.1)))) ?_
                              refine Steps.cons (fun a w hS hI hp => ok_on rfl (((hp.get 1 (by rfl) rfl rfl)).elim fun _ h_ => does_val (x_load1 (d := .int .u8) rfl h_.1 (by kernel_rfl) rfl h_.2.2) rfl)) ?_
                              refine Steps.cons (fun a w hS hI hp => ok_on rfl (does_val (x_bin rfl ((hp.get 2 (by rfl) rfl rfl)) (rfl) (b_addk _ _ _ _ _ _)) rfl)) ?_
                              refine Steps.cons (fun a w hS hI hp => ok_on rfl (does_place (e := 5) (xs := t28) (i := 6) rfl ((hp.get 0 (by rfl) rfl rfl)) (rfl) (by kernel_rfl) (by kernel_rfl) (by decide) c4 (Kd.R_below ho31 hI.2.2.1))) ?_
                              exact Steps.nil
                            clear hS
                            intro at41 w42 hS hI hp
                            have hBw42_w := hI.1
                            have hBw42_w26 := hI.2.1
                            have hBw42_w30 := hI.2.2.1
                            have hBw42_w39 := hI.2.2.2
                            have hv44 : sl _ 44 = .int .u8 (IntKind.u8.wrap ((rd t28 6) + 1)) := hp 3 (by decide)
                            have hv45 : IsP A31 (6 : Int).toNat (sl _ 45) w42 := hp 4 (by decide)
                            have hpw42_45 := hv45
                            have hBw42_w42 := Below.refl w42.heap.size w42
                            have hS := hS.cons hv44
                            clear hp hI hv44 hv45
                            show wpList _ _ _ [_] _ _
                            refine list_step rfl (does_put (e := 5) (xs := t28) (i := 6) (u := (IntKind.u8.wrap ((rd t28 6) + 1))) rfl (show IsP _ _ (sl _ 45) _ from hpw42_45) (hS.get 0 rfl) (by kernel_rfl) (by decide) c4 (Kd.R_below ho31 hBw42_w30)) ?_
                            rintro vw43 w43 ⟨rfl, g44, hA44, hge44, hlt44, hT, ho44⟩
                            have hBw43_w := hT.below hBw42_w (Nat.le_trans (hBw26_w).size hge44) (hBw42_w).size
                            have hBw43_w26 := hT.below hBw42_w26 hge44 (hBw42_w26).size
                            have hc44 := (Kd.R_reads' ho44).2.2
                            have hn44 : ((t28.set (6 : Int).toNat (IntKind.u8.wrap ((rd t28 6) + 1))).length : Nat) = t28.length := by simp [List.length_set]
                            replace hS := ((((((((((hS.nil).cons (hS.get 9 rfl)).cons (hS.get 8 rfl)).cons (hS.get 7 rfl)).cons (hS.get 6 rfl)).cons (hS.get 5 rfl)).cons ((hS.get 4 rfl).trans (congrArg (fun n => Value.slice A31 n C31) hn44.symm))).cons (hS.get 3 rfl)).cons (hS.get 2 rfl)).cons (hS.get 1 rfl)).cons (hS.get 0 rfl)
                            have hBw43_w43 := Below.refl w43.heap.size w43
                            clear hT
                            refine wpList_nil ?_
                            refine hK40 _ _ ?_
                            clear hK40 K40
                            refine wp_seq_k (fun K45 hK45 => ?_)
                            refine reg_seq (N := 91) (bs := [(44, .int .u8 (IntKind.u8.wrap ((rd t28 6) + 1))), (8, .bool t37_2), (7, .int .i64 t37_1), (35, .bool (!decide ((t28.length : Int) = 10))), (6, .slice A31 ((t28.set (6 : Int).toNat (IntKind.u8.wrap ((rd t28 6) + 1))).length) C31), (5, .bool t24_2), (21, .bool (!decide ((t10.length : Int) = 10))), (2, .bool t6_2), (1, .int .i64 t6_1), (0, .bool false)]) (I := fun x => Below w.heap.size w x ∧ Below w26.heap.size w26 x ∧ Below w43.heap.size w43 x) (ps := [IsV (.slice A31 ((t28.set (6 : Int).toNat (IntKind.u8.wrap ((rd t28 6) + 1))).length) C31), IsV (.tuple #[.int .i64 t46_1, .bool t46_2]), IsV (.tuple #[.int .i64 t46_1, .bool t46_2]), IsV (.int .i64 t46_1), IsV (.bool t46_2), IsV (.int .i64 t46_1), IsV (.bool t46_2)]) (by kernel_rfl) ?_ ?_ rfl hS ⟨hBw43_w, hBw43_w26, hBw43_w43⟩ ?_ ?_
                            · exact fun x y hI hb => ⟨below_step hI.1 hb, below_step hI.2.1 hb, below_step hI.2.2 hb⟩
                            · exact AllStay.cons (Stays.v _) (AllStay.cons (Stays.v _) (AllStay.cons (Stays.v _) (AllStay.cons (Stays.v _) (AllStay.cons (Stays.v _) (AllStay.cons (Stays.v _) (AllStay.cons (Stays.v _) (AllStay.nil)))))))
                            · refine Steps.cons (fun a w hS hI hp => ok_on rfl (does_val (x_move rfl (hS.get 4 rfl)) rfl)) ?_
                              refine Steps.cons (fun a w hS hI hp => ok_on rfl (does_call (by kernel_rfl) (ar2 ((hp.get 0 (by rfl) rfl rfl)) (rfl)) ((stamp_Get.calls k _ _ (t28.set (6 : Int).toNat (IntKind.u8.wrap ((rd t28 6) + 1))) 0 t46_1 t46_2 _ (Kd.C_below hc44 hI.2.2) (hn44 ▸ hl31) At46).mono fun _ _ h => ⟨_, h.1, h.2.below, rfl⟩))) ?_
                              refine Steps.cons (fun a w hS hI hp => ok_on rfl (does_val (x_move rfl ((hp.get 1 (by rfl) rfl rfl))) rfl)) ?_
                              refine Steps.cons (fun a w hS hI hp => ok_on rfl (does_val (x_extract rfl ((hp.get 2 (by rfl) rfl rfl)) rfl) rfl)) ?_
                              refine Steps.cons (fun a w hS hI hp => ok_on rfl (does_val (x_extract rfl ((hp.get 2 (by rfl) rfl rfl)) rfl) rfl)) ?_
                              refine Steps.cons (fun a w hS hI hp => ok_on rfl (does_val (x_assign rfl ((hp.get 3 (by rfl) rfl rfl))) rfl)) ?_
                              refine Steps.cons (fun a w hS hI hp => ok_on rfl (does_val (x_assign rfl ((hp.get 4 (by rfl) rfl rfl))) rfl)) ?_
                              exact Steps.nil
                            clear hS
                            intro at47 w48 hS hI hp
                            have hBw48_w := hI.1
                            have hBw48_w26 := hI.2.1
                            have hBw48_w43 := hI.2.2
                            replace hS := (((((((((hS.nil).cons (hS.get 9 rfl)).cons (hS.get 8 rfl)).cons (hS.get 7 rfl)).cons (hS.get 6 rfl)).cons (hS.get 5 rfl)).cons (hS.get 4 rfl)).cons (hS.get 3 rfl)).cons (hS.get 2 rfl)).cons (hS.get 1 rfl)
                            have hv10 : sl _ 10 = .bool t46_2 := hp 6 (by decide)
                            have hBw48_w48 := Below.refl w48.heap.size w48
                            have hS := hS.cons hv10
                            clear hp hI hv10
                            refine hK45 _ _ ?_
                            clear hK45 K45
                            refine wp_seq_k (fun K49 hK49 => ?_)
                            refine reg_seq (N := 91) (bs := [(10, .bool t46_2), (8, .bool t37_2), (7, .int .i64 t37_1), (35, .bool (!decide ((t28.length : Int) = 10))), (6, .slice A31 ((t28.set (6 : Int).toNat (IntKind.u8.wrap ((rd t28 6) + 1))).length) C31), (5, .bool t24_2), (21, .bool (!decide ((t10.length : Int) = 10))), (2, .bool t6_2), (1, .int .i64 t6_1), (0, .bool false)]) (I := fun x => Below w.heap.size w x ∧ Below w26.heap.size w26 x ∧ Below w43.heap.size w43 x ∧ Below w48.heap.size w48 x) (ps := [IsV (.slice A31 ((t28.set (6 : Int).toNat (IntKind.u8.wrap ((rd t28 6) + 1))).length) C31), IsV (.slice A31 (((t28.set (6 : Int).toNat (IntKind.u8.wrap ((rd t28 6) + 1))).take (9 : Int).toNat).length) C31), IsV (.tuple #[.int .i64 t50_1, .bool t50_2]), IsV (.tuple #[.int .i64 t50_1, .bool t50_2]), IsV (.int .i64 t50_1), IsV (.bool t50_2), IsV (.int .i64 t50_1), IsV (.bool t50_2)]) (by kernel_rfl) ?_ ?_ rfl hS ⟨hBw48_w, hBw48_w26, hBw48_w43, hBw48_w48⟩ ?_ ?_
                            · exact fun x y hI hb => ⟨below_step hI.1 hb, below_step hI.2.1 hb, below_step hI.2.2.1 hb, below_step hI.2.2.2 hb⟩
                            · exact AllStay.cons (Stays.v _) (AllStay.cons (Stays.v _) (AllStay.cons (Stays.v _) (AllStay.cons (Stays.v _) (AllStay.cons (Stays.v _) (AllStay.cons (Stays.v _) (AllStay.cons (Stays.v _) (AllStay.cons (Stays.v _) (AllStay.nil))))))))
                            · refine Steps.cons (fun a w hS hI hp => ok_on rfl (does_val (x_move rfl (hS.get 4 rfl)) rfl)) ?_
                              refine Steps.cons (fun a w hS hI hp => ok_on rfl (does_val (x_cuthi rfl (e := 5) (xs := (t28.set (6 : Int).toNat (IntKind.u8.wrap ((rd t28 6) + 1)))) (by kernel_rfl) (by kernel_rfl) ((hp.get 0 (by rfl) rfl rfl)) (rfl) (by decide) c5 (hn44 ▸ hl31)) rfl)) ?_
                              refine Steps.cons (fun a w hS hI hp => ok_on rfl (does_call (by kernel_rfl) (ar2 ((hp.get 1 (by rfl) rfl rfl)) (rfl)) ((stamp_Get.calls k _ _ ((t28.set (6 : Int).toNat (IntKind.u8.wrap ((rd t28 6) + 1))).take (9 : Int).toNat) 0 t50_1 t50_2 _ (Kd.C_take (m := (9 : Int).toNat) (Kd.C_below hc44 hI.2.2.1) (by have := c5; omega)) (Nat.le_trans (List.length_take_le' _ _) (hn44 ▸ hl31)) At50).mono fun _ _ h => ⟨_, h.1, h.2.below, rfl⟩))) ?_
                              refine Steps.cons (fun a w hS hI hp => ok_on rfl (does_val (x_move rfl ((hp.get 2 (by rfl) rfl rfl))) rfl)) ?_
                              refine Steps.cons (fun a w hS hI hp => ok_on rfl (does_val (x_extract rfl ((hp.get 3 (by rfl) rfl rfl)) rfl) rfl)) ?_
                              refine Steps.cons (fun a w hS hI hp => ok_on rfl (does_val (x_extract rfl ((hp.get 3 (by rfl) rfl rfl)) rfl) rfl)) ?_
                              refine Steps.cons (fun a w hS hI hp => ok_on rfl (does_val (x_assign rfl ((hp.get 4 (by rfl) rfl rfl))) rfl)) ?_
                              refine Steps.cons (fun a w hS hI hp => ok_on rfl (does_val (x_assign rfl ((hp.get 5 (by rfl) rfl rfl))) rfl)) ?_
                              exact Steps.nil
                            clear hS
                            intro at51 w52 hS hI hp
                            have hBw52_w := hI.1
                            have hBw52_w26 := hI.2.1
                            have hBw52_w43 := hI.2.2.1
                            have hBw52_w48 := hI.2.2.2
                            replace hS := (((((((((hS.nil).cons (hS.get 9 rfl)).cons (hS.get 8 rfl)).cons (hS.get 7 rfl)).cons (hS.get 6 rfl)).cons (hS.get 5 rfl)).cons (hS.get 3 rfl)).cons (hS.get 2 rfl)).cons (hS.get 1 rfl)).cons (hS.get 0 rfl)
                            have hv12 : sl _ 12 = .bool t50_2 := hp 7 (by decide)
                            have hBw52_w52 := Below.refl w52.heap.size w52
                            have hS := hS.cons hv12
                            clear hp hI hv12
                            refine hK49 _ _ ?_
                            clear hK49 K49
                            refine wp_seq_k (fun K53 hK53 => ?_)
                            replace hS := (((((((((hS.nil).cons (hS.get 8 rfl)).cons (hS.get 7 rfl)).cons (hS.get 6 rfl)).cons (hS.get 5 rfl)).cons (hS.get 4 rfl)).cons (hS.get 3 rfl)).cons (hS.get 2 rfl)).cons (hS.get 1 rfl)).cons (hS.get 0 rfl)
                            refine reg_any (N := 91) (bs := [(12, .bool t50_2), (10, .bool t46_2), (8, .bool t37_2), (7, .int .i64 t37_1), (35, .bool (!decide ((t28.length : Int) = 10))), (5, .bool t24_2), (21, .bool (!decide ((t10.length : Int) = 10))), (2, .bool t6_2), (1, .int .i64 t6_1)]) (I := fun x => Below w.heap.size w x ∧ Below w52.heap.size w52 x) (ps := [IsV (.bool t6_2), IsV (.bool t6_2), IsV (.int .i64 t6_1), IsV (.bool (decide (t6_1 = 4000000000000000))), IsV (.bool (decide (t6_1 = 4000000000000000))), IsV (.bool (decide (t6_1 = 4000000000000000))), IsV (.bool t24_2), IsV (.bool (!t24_2)), IsV (.bool (!t24_2)), IsV (.bool (!t24_2)), IsV (.bool t37_2), IsV (.bool t37_2), IsV (.bool t37_2), IsV (.int .i64 t37_1), IsV (.bool (decide (t37_1 = 999999999))), IsV (.bool (decide (t37_1 = 999999999))), IsV (.bool (decide (t37_1 = 999999999))), IsV (.bool t46_2), IsV (.bool (!t46_2)), IsV (.bool (!t46_2)), IsV (.bool (!t46_2)), IsV (.bool t50_2), IsV (.bool (!t50_2)), IsV (.bool (!t50_2)), IsV (.bool (!t50_2)), IsR (Kd.int .u8) 5 w52.heap.size t54, IsV (.string (strOfNums t54)), IsR (Kd.int .u8) 5 w52.heap.size t55, IsV (.string (strOfNums t55)), IsV (.bool ((strOfNums t54).toList == (strOfNums t55).toList)), IsV (.bool ((strOfNums t54).toList == (strOfNums t55).toList)), IsV (.bool ((strOfNums t54).toList == (strOfNums t55).toList)), IsV (.bool t56), IsV (.bool t56), IsV (.bool t56)]) (by kernel_rfl) (by kernel_rfl) ?_ ?_ rfl hS ⟨hBw52_w, hBw52_w52⟩ ?_ ?_
                            · exact fun x y hI hb => ⟨below_step hI.1 hb, below_step hI.2 hb⟩
                            · exact AllStay.cons (Stays.v _) (AllStay.cons (Stays.v _) (AllStay.cons (Stays.v _) (AllStay.cons (Stays.v _) (AllStay.cons (Stays.v _) (AllStay.cons (Stays.v _) (AllStay.cons (Stays.v _) (AllStay.cons (Stays.v _) (AllStay.cons (Stays.v _) (AllStay.cons (Stays.v _) (AllStay.cons (Stays.v _) (AllStay.cons (Stays.v _) (AllStay.cons (Stays.v _) (AllStay.cons (Stays.v _) (AllStay.cons (Stays.v _) (AllStay.cons (Stays.v _) (AllStay.cons (Stays.v _) (AllStay.cons (Stays.v _) (AllStay.cons (Stays.v _) (AllStay.cons (Stays.v _) (AllStay.cons (Stays.v _) (AllStay.cons (Stays.v _) (AllStay.cons (Stays.v _) (AllStay.cons (Stays.v _) (AllStay.cons (Stays.v _) (AllStay.cons (Stays.r _ _ _ _) (AllStay.cons (Stays.v _) (AllStay.cons (Stays.r _ _ _ _) (AllStay.cons (Stays.v _) (AllStay.cons (Stays.v _) (AllStay.cons (Stays.v _) (AllStay.cons (Stays.v _) (AllStay.cons (Stays.v _) (AllStay.cons (Stays.v _) (AllStay.cons (Stays.v _) (AllStay.nil)))))))))))))))))))))))))))))))))))
                            · refine Steps.cons (fun a w hS hI hp => ok_on rfl (does_val (x_move rfl (hS.get 7 rfl)) rfl)) ?_
                              refine Steps.cons (fun a w hS hI hp => ok_on rfl (does_val (x_move rfl ((hp.get 0 (by rfl) rfl rfl))) rfl)) ?_
                              refine Steps.cons (fun a w hS hI hp => ok_if (d := 58) rfl rfl (by rw [hS.size]; decide) (((hp.get 1 (by rfl) rfl rfl)).trans (bT c6)) (does_val (x_move rfl (hS.get 8 rfl)) rfl)) ?_
                              refine Steps.cons (fun a w hS hI hp => ok_if (d := 58) rfl rfl (by rw [hS.size]; decide) (((hp.get 1 (by rfl) rfl rfl)).trans (bT c6)) (does_val (x_bin rfl ((hp.get 2 (by rfl) rfl rfl)) (rfl) (b_eql _ _ _ _ _ _)) rfl)) ?_
                              refine Steps.cons (fun a w hS hI hp => ok_on rfl (does_val (x_pickT rfl (((hp.get 1 (by rfl) rfl rfl)).trans (bT c6)) ((hp.get 3 (by rfl) rfl rfl))) rfl)) ?_
                              refine Steps.cons (fun a w hS hI hp => ok_on rfl (does_val (x_move rfl ((hp.get 4 (by rfl) rfl rfl))) rfl)) ?_
                              refine Steps.cons (fun a w hS hI hp => ok_if (d := 62) rfl rfl (by rw [hS.size]; decide) (((hp.get 5 (by rfl) rfl rfl)).trans (bT (decide_eq_true c7))) (does_val (x_move rfl (hS.get 5 rfl)) rfl)) ?_
                              refine Steps.cons (fun a w hS hI hp => ok_if (d := 62) rfl rfl (by rw [hS.size]; decide) (((hp.get 5 (by rfl) rfl rfl)).trans (bT (decide_eq_true c7))) (does_val (x_not rfl ((hp.get 6 (by rfl) rfl rfl))) rfl)) ?_
                              refine Steps.cons (fun a w hS hI hp => ok_on rfl (does_val (x_pickT rfl (((hp.get 5 (by rfl) rfl rfl)).trans (bT (decide_eq_true c7))) ((hp.get 7 (by rfl) rfl rfl))) rfl)) ?_
                              refine Steps.cons (fun a w hS hI hp => ok_on rfl (does_val (x_move rfl ((hp.get 8 (by rfl) rfl rfl))) rfl)) ?_
                              refine Steps.cons (fun a w hS hI hp => ok_if (d := 66) rfl rfl (by rw [hS.size]; decide) (((hp.get 9 (by rfl) rfl rfl)).trans (bT (congrArg (!·) (Bool.eq_false_iff.2 c8)))) (does_val (x_move rfl (hS.get 2 rfl)) rfl)) ?_
                              refine Steps.cons (fun a w hS hI hp => ok_on rfl (does_val (x_pickT rfl (((hp.get 9 (by rfl) rfl rfl)).trans (bT (congrArg (!·) (Bool.eq_false_iff.2 c8)))) ((hp.get 10 (by rfl) rfl rfl))) rfl)) ?_
                              refine Steps.cons (fun a w hS hI hp => ok_on rfl (does_val (x_move rfl ((hp.get 11 (by rfl) rfl rfl))) rfl)) ?_
                              refine Steps.cons (fun a w hS hI hp => ok_if (d := 69) rfl rfl (by rw [hS.size]; decide) (((hp.get 12 (by rfl) rfl rfl)).trans (bT c9)) (does_val (x_move rfl (hS.get 3 rfl)) rfl)) ?_
                              refine Steps.cons (fun a w hS hI hp => ok_if (d := 69) rfl rfl (by rw [hS.size]; decide) (((hp.get 12 (by rfl) rfl rfl)).trans (bT c9)) (does_val (x_bin rfl ((hp.get 13 (by rfl) rfl rfl)) (rfl) (b_eql _ _ _ _ _ _)) rfl)) ?_
                              refine Steps.cons (fun a w hS hI hp => ok_on rfl (does_val (x_pickT rfl (((hp.get 12 (by rfl) rfl rfl)).trans (bT c9)) ((hp.get 14 (by rfl) rfl rfl))) rfl)) ?_
                              refine Steps.cons (fun a w hS hI hp => ok_on rfl (does_val (x_move rfl ((hp.get 15 (by rfl) rfl rfl))) rfl)) ?_
                              refine Steps.cons (fun a w hS hI hp => ok_if (d := 73) rfl rfl (by rw [hS.size]; decide) (((hp.get 16 (by rfl) rfl rfl)).trans (bT (decide_eq_true c10))) (does_val (x_move rfl (hS.get 1 rfl)) rfl)) ?_
                              refine Steps.cons (fun a w hS hI hp => ok_if (d := 73) rfl rfl (by rw [hS.size]; decide) (((hp.get 16 (by rfl) rfl rfl)).trans (bT (decide_eq_true c10))) (does_val (x_not rfl ((hp.get 17 (by rfl) rfl rfl))) rfl)) ?_
                              refine Steps.cons (fun a w hS hI hp => ok_on rfl (does_val (x_pickT rfl (((hp.get 16 (by rfl) rfl rfl)).trans (bT (decide_eq_true c10))) ((hp.get 18 (by rfl) rfl rfl))) rfl)) ?_
                              refine Steps.cons (fun a w hS hI hp => ok_on rfl (does_val (x_move rfl ((hp.get 19 (by rfl) rfl rfl))) rfl)) ?_
                              refine Steps.cons (fun a w hS hI hp => ok_if (d := 77) rfl rfl (by rw [hS.size]; decide) (((hp.get 20 (by rfl) rfl rfl)).trans (bT (congrArg (!·) (Bool.eq_false_iff.2 c11)))) (does_val (x_move rfl (hS.get 0 rfl)) rfl)) ?_
                              refine Steps.cons (fun a w hS hI hp => ok_if (d := 77) rfl rfl (by rw [hS.size]; decide) (((hp.get 20 (by rfl) rfl rfl)).trans (bT (congrArg (!·) (Bool.eq_false_iff.2 c11)))) (does_val (x_not rfl ((hp.get 21 (by rfl) rfl rfl))) rfl)) ?_
                              refine Steps.cons (fun a w hS hI hp => ok_on rfl (does_val (x_pickT rfl (((hp.get 20 (by rfl) rfl rfl)).trans (bT (congrArg (!·) (Bool.eq_false_iff.2 c11)))) ((hp.get 22 (by rfl) rfl rfl))) rfl)) ?_
                              refine Steps.cons (fun a w hS hI hp => ok_on rfl (does_val (x_move rfl ((hp.get 23 (by rfl) rfl rfl))) rfl)) ?_
                              refine Steps.cons (fun a w hS hI hp => ok_if (d := 81) rfl rfl (by rw [hS.size]; decide) (((hp.get 24 (by rfl) rfl rfl)).trans (bT (congrArg (!·) (Bool.eq_false_iff.2 c12)))) (does_call (by kernel_rfl) (ar2 (rfl) (rfl)) ((stamp_Put.calls _ _ [] (-1) t54 _ (Kd.C_nil _ _) (Nat.le_refl _) At54).mono fun _ _ h => h.elim fun v0 h => ⟨v0, h.1, h.2.2, Kd.R_lower h.2.1 hI.2.size⟩))) ?_
                              refine Steps.cons (fun a w hS hI hp => ok_if (d := 81) rfl rfl (by rw [hS.size]; decide) (((hp.get 24 (by rfl) rfl rfl)).trans (bT (congrArg (!·) (Bool.eq_false_iff.2 c12)))) ((IsC.of_r ((hp.get 25 (by rfl) rfl rfl))).elim fun A_ h_ => h_.elim fun c_ h_ => h_.elim fun hv_ h_ => h_.elim fun hl_ hc_ => does_val (x_conv rfl hv_ (Kd.C_string (by kernel_rfl) (e := 5) (by kernel_rfl) (by kernel_rfl) hc_)) rfl)) ?_
                              refine Steps.cons (fun a w hS hI hp => ok_if (d := 81) rfl rfl (by rw [hS.size]; decide) (((hp.get 24 (by rfl) rfl rfl)).trans (bT (congrArg (!·) (Bool.eq_false_iff.2 c12)))) (does_call (by kernel_rfl) (ar2 (rfl) (rfl)) ((stamp_Put.calls _ _ [] 0 t55 _ (Kd.C_nil _ _) (Nat.le_refl _) At55).mono fun _ _ h => h.elim fun v0 h => ⟨v0, h.1, h.2.2, Kd.R_lower h.2.1 hI.2.size⟩))) ?_
                              refine Steps.cons (fun a w hS hI hp => ok_if (d := 81) rfl rfl (by rw [hS.size]; decide) (((hp.get 24 (by rfl) rfl rfl)).trans (bT (congrArg (!·) (Bool.eq_false_iff.2 c12)))) ((IsC.of_r ((hp.get 27 (by rfl) rfl rfl))).elim fun A_ h_ => h_.elim fun c_ h_ => h_.elim fun hv_ h_ => h_.elim fun hl_ hc_ => does_val (x_conv rfl hv_ (Kd.C_string (by kernel_rfl) (e := 5) (by kernel_rfl) (by kernel_rfl) hc_)) rfl)) ?_
                              refine Steps.cons (fun a w hS hI hp => ok_if (d := 81) rfl rfl (by rw [hS.size]; decide) (((hp.get 24 (by rfl) rfl rfl)).trans (bT (congrArg (!·) (Bool.eq_false_iff.2 c12)))) (does_val (x_bin rfl ((hp.get 26 (by rfl) rfl rfl)) ((hp.get 28 (by rfl) rfl rfl)) (b_eqs _ _ _ _ _)) rfl)) ?_
                              refine Steps.cons (fun a w hS hI hp => ok_on rfl (does_val (x_pickT rfl (((hp.get 24 (by rfl) rfl rfl)).trans (bT (congrArg (!·) (Bool.eq_false_iff.2 c12)))) ((hp.get 29 (by rfl) rfl rfl))) rfl)) ?_
                              refine Steps.cons (fun a w hS hI hp => ok_on rfl (does_val (x_move rfl ((hp.get 30 (by rfl) rfl rfl))) rfl)) ?_
                              refine Steps.cons (fun a w hS hI hp => ok_if (d := 88) rfl rfl (by rw [hS.size]; decide) (((hp.get 31 (by rfl) rfl rfl)).trans (bT c13)) (does_call (by kernel_rfl) rfl ((carillonlaw02_awake.calls  t56 _  At56).mono fun _ _ h => ⟨_, h.1, h.2, rfl⟩))) ?_
                              refine Steps.cons (fun a w hS hI hp => ok_on rfl (does_val (x_pickT rfl (((hp.get 31 (by rfl) rfl rfl)).trans (bT c13)) ((hp.get 32 (by rfl) rfl rfl))) rfl)) ?_
                              refine Steps.cons (fun a w hS hI hp => ok_on rfl (does_val (x_assign rfl ((hp.get 33 (by rfl) rfl rfl))) rfl)) ?_
                              exact Steps.nil
                            clear hS
                            intro at57 w58 hS hI hp
                            have hBw58_w := hI.1
                            have hBw58_w52 := hI.2
                            replace hS := ((hS.nil).cons (hS.get 6 rfl)).cons (hS.get 4 rfl)
                            have hv0 : sl _ 0 = .bool t56 := hp 34 (by decide)
                            have hBw58_w58 := Below.refl w58.heap.size w58
                            have hS := hS.cons hv0
                            clear hp hI hv0
                            refine hK53 _ _ ?_
                            clear hK53 K53
                            refine wp_ret ?_
                            (try simp only [Exit.then, Exit.inBlock])
                            exact bodyPost_ret (v := .bool true) (by rw [results_tmp rfl]; exact congrArg (Result.ok · _) ((hS.get 0 rfl).trans (congrArg Value.bool hret))) hS.nodef ⟨rfl, hBw58_w⟩
                          · rw [if_neg c13] at H
                            exact absurd H (by simp)
                    · rw [if_neg c10] at H
                      exact absurd H (by simp)
                  · rw [if_neg c9] at H
                    exact absurd H (by simp)
              · rw [if_neg c7] at H
                exact absurd H (by simp)
            · rw [if_neg c6] at H
              exact absurd H (by simp)
          · rw [if_neg c5] at H
            exact absurd H (by simp)
        · rw [if_neg c4] at H
          exact absurd H (by simp)
      · rw [if_neg c3] at H
        exact absurd H (by simp)
    · rw [if_neg c2] at H
      exact absurd H (by simp)
  · rw [if_neg c1] at H
    exact absurd H (by simp)

/-- The one pure statement of carillonlaw02_StampEnds. -/
def carillonlaw02_StampEnds.Pure : Prop := ∃ k, carillonlaw02_StampEnds.f k  = some true
theorem carillonlaw02_StampEnds.walk (P : carillonlaw02_StampEnds.Pure)  (w : World)  :
    Calls Try.prog 11 #[] w fun e w' => e = .returned (.bool true) ∧ Below w.heap.size w w' := by
  obtain ⟨k, h⟩ := P  
  refine (carillonlaw02_StampEnds.calls k  w  h).mono ?_
  rintro e w' ⟨rfl, hd⟩
  exact ⟨rfl, hd⟩

end Go.Proofs.Yteahnnhekfkabaa.P
