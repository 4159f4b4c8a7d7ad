/- Functions and loops of the given program as Lean functions, and that the code comes to what they say: written by this session's own program; Lean checks it. -/
import Derived.Test.YtgmiokocipmbaaaZzPx0
import Derived.Test.YtgmiokocipmbaaaZzPx6
namespace Go.Proofs.Ytgmiokocipmbaaa.P
open Go.RowKit Go.Proofs.YtgmiokocipmbaaaW.PrintWords Go.Proofs.YtgmiokocipmbaaaW.PrintLast Go.Proofs.YtgmiokocipmbaaaW.PrintMore
attribute [local go_sem] max2_int min2_int max_two min_two max_three min_three max_four min_four   -- for this text's walks alone
set_option linter.unusedVariables false
set_option linter.unusedSimpArgs false
/-! ### tlv_Get: function 21: by our own printer -/
def tlv_Get.l1 (k : Nat) : Nat → (List Int) → Int → (List (S26)) → Int → Option (List (S26) × Int)
 | 0, _, _, _, _ => none
 | n1 + 1, y1_0, x1_1, y1_6, x1_7 => if x1_1 < (y1_0.length : Int) then ((octets_Get.f k y1_0 (wrap64 (x1_1 + 2)) 2).bind fun t1006 => (if (y1_6.length : Int) = 8 then (if 7 = 0 then ((octets_Get.f k y1_0 x1_1 2).bind fun t1020 => (if 0 ≤ (wrap64 (x1_1 + 4)) then (if (wrap64 (x1_1 + 4)) ≤ (wrap64 ((wrap64 (x1_1 + 4)) + t1006.1)) then (if (wrap64 ((wrap64 (x1_1 + 4)) + t1006.1)) ≤ (y1_0.length : Int) then (if (y1_6.length + [(⟨t1020.1, strOfNums ((y1_0.take (wrap64 ((wrap64 (x1_1 + 4)) + t1006.1) : Int).toNat).drop (wrap64 (x1_1 + 4) : Int).toNat)⟩ : S26)].length) * 24 ≤ 140737488355328 then (tlv_Get.l1 k n1 y1_0 (wrap64 (x1_1 + (wrap64 (4 + t1006.1)))) (y1_6 ++ [(⟨t1020.1, strOfNums ((y1_0.take (wrap64 ((wrap64 (x1_1 + 4)) + t1006.1) : Int).toNat).drop (wrap64 (x1_1 + 4) : Int).toNat)⟩ : S26)] : List S26) 7) else (none)) else (none)) else (none)) else (none))) else (some ([], 7))) else (if t1006.2 = true then (if t1006.1 > (wrap64 ((wrap64 ((y1_0.length : Int) - x1_1)) - 4)) then (if 2 = 0 then ((octets_Get.f k y1_0 x1_1 2).bind fun t1023 => (if 0 ≤ (wrap64 (x1_1 + 4)) then (if (wrap64 (x1_1 + 4)) ≤ (wrap64 ((wrap64 (x1_1 + 4)) + t1006.1)) then (if (wrap64 ((wrap64 (x1_1 + 4)) + t1006.1)) ≤ (y1_0.length : Int) then (if (y1_6.length + [(⟨t1023.1, strOfNums ((y1_0.take (wrap64 ((wrap64 (x1_1 + 4)) + t1006.1) : Int).toNat).drop (wrap64 (x1_1 + 4) : Int).toNat)⟩ : S26)].length) * 24 ≤ 140737488355328 then (tlv_Get.l1 k n1 y1_0 (wrap64 (x1_1 + (wrap64 (4 + t1006.1)))) (y1_6 ++ [(⟨t1023.1, strOfNums ((y1_0.take (wrap64 ((wrap64 (x1_1 + 4)) + t1006.1) : Int).toNat).drop (wrap64 (x1_1 + 4) : Int).toNat)⟩ : S26)] : List S26) 2) else (none)) else (none)) else (none)) else (none))) else (some ([], 2))) else (if (Int.tmod t1006.1 2) = 0 then (if x1_7 = 0 then ((octets_Get.f k y1_0 x1_1 2).bind fun t1024 => (if 0 ≤ (wrap64 (x1_1 + 4)) then (if (wrap64 (x1_1 + 4)) ≤ (wrap64 ((wrap64 (x1_1 + 4)) + t1006.1)) then (if (wrap64 ((wrap64 (x1_1 + 4)) + t1006.1)) ≤ (y1_0.length : Int) then (if (y1_6.length + [(⟨t1024.1, strOfNums ((y1_0.take (wrap64 ((wrap64 (x1_1 + 4)) + t1006.1) : Int).toNat).drop (wrap64 (x1_1 + 4) : Int).toNat)⟩ : S26)].length) * 24 ≤ 140737488355328 then (tlv_Get.l1 k n1 y1_0 (wrap64 (x1_1 + (wrap64 (4 + t1006.1)))) (y1_6 ++ [(⟨t1024.1, strOfNums ((y1_0.take (wrap64 ((wrap64 (x1_1 + 4)) + t1006.1) : Int).toNat).drop (wrap64 (x1_1 + 4) : Int).toNat)⟩ : S26)] : List S26) x1_7) else (none)) else (none)) else (none)) else (none))) else (some ([], x1_7))) else (if 4 = 0 then ((octets_Get.f k y1_0 x1_1 2).bind fun t1026 => (if 0 ≤ (wrap64 (x1_1 + 4)) then (if (wrap64 (x1_1 + 4)) ≤ (wrap64 ((wrap64 (x1_1 + 4)) + t1006.1)) then (if (wrap64 ((wrap64 (x1_1 + 4)) + t1006.1)) ≤ (y1_0.length : Int) then (if (y1_6.length + [(⟨t1026.1, strOfNums ((y1_0.take (wrap64 ((wrap64 (x1_1 + 4)) + t1006.1) : Int).toNat).drop (wrap64 (x1_1 + 4) : Int).toNat)⟩ : S26)].length) * 24 ≤ 140737488355328 then (tlv_Get.l1 k n1 y1_0 (wrap64 (x1_1 + (wrap64 (4 + t1006.1)))) (y1_6 ++ [(⟨t1026.1, strOfNums ((y1_0.take (wrap64 ((wrap64 (x1_1 + 4)) + t1006.1) : Int).toNat).drop (wrap64 (x1_1 + 4) : Int).toNat)⟩ : S26)] : List S26) 4) else (none)) else (none)) else (none)) else (none))) else (some ([], 4))))) else (if 2 = 0 then ((octets_Get.f k y1_0 x1_1 2).bind fun t1023 => (if 0 ≤ (wrap64 (x1_1 + 4)) then (if (wrap64 (x1_1 + 4)) ≤ (wrap64 ((wrap64 (x1_1 + 4)) + t1006.1)) then (if (wrap64 ((wrap64 (x1_1 + 4)) + t1006.1)) ≤ (y1_0.length : Int) then (if (y1_6.length + [(⟨t1023.1, strOfNums ((y1_0.take (wrap64 ((wrap64 (x1_1 + 4)) + t1006.1) : Int).toNat).drop (wrap64 (x1_1 + 4) : Int).toNat)⟩ : S26)].length) * 24 ≤ 140737488355328 then (tlv_Get.l1 k n1 y1_0 (wrap64 (x1_1 + (wrap64 (4 + t1006.1)))) (y1_6 ++ [(⟨t1023.1, strOfNums ((y1_0.take (wrap64 ((wrap64 (x1_1 + 4)) + t1006.1) : Int).toNat).drop (wrap64 (x1_1 + 4) : Int).toNat)⟩ : S26)] : List S26) 2) else (none)) else (none)) else (none)) else (none))) else (some ([], 2)))))) else (if x1_7 = 0 then (some (y1_6, 0)) else (some ([], x1_7)))
def tlv_Get.f (k : Nat) (l0 : List Int) (a1 : Int) : Option (List (S26) × Int) := if a1 < 0 then (some ([], 1)) else (if a1 > (l0.length : Int) then (some ([], 1)) else (tlv_Get.l1 k k l0 a1 [] 0))
open Go.Proofs.Ytgmiokocipmbaaa.E in
theorem tlv_Get.flat26 : Flat k26 (fun x => [.int .i64 x.f0, .string x.f1]) := ⟨fun w x cs h => k26_open h, fun w base x => k26_mkM w base _ x⟩
open Go.Proofs.Ytgmiokocipmbaaa.E in
set_option maxHeartbeats 60000000 in
set_option maxRecDepth 100000 in
theorem tlv_Get.calls (k : Nat) (A0 : Option Addr) (cp0 : Nat) (l0 : List Int) (a1 : Int) (r1 : List (S26)) (r2 : Int) (w : World) (HR0 : Kd.C (Kd.int .u8) w A0 l0.length l0) (HC0 : l0.length ≤ cp0) (h : tlv_Get.f k l0 a1 = some (r1, r2)) :
  Calls Try.prog 21 #[.slice A0 l0.length cp0, .int .i64 a1] w fun e w' => ∃ v0_ : Value, e = .returned (.tuple #[v0_, .int .i64 r2]) ∧ Kd.R k26 26 w' w.heap.size (fun _ => True) v0_ r1 ∧ Below w.heap.size w w' := by
 have H := h
 clear h
 unfold tlv_Get.f at H
 by_cases c1 : a1 < 0
 ·rw [if_pos c1] at H
  simp only [Option.some.injEq, Prod.mk.injEq] at H
  obtain ⟨rfl, rfl⟩ := H
  refine calls_of_wp (fn := Try.f21) (by kernel_rfl) rfl ?_
  have hS := St.enter #[.slice A0 l0.length cp0, .int .i64 a1] 81 (by simp) [(0, .slice A0 l0.length cp0), (1, .int .i64 a1)] (by simp)
  have HB0 := Below.refl w.heap.size w
  refine wp_seq_k (fun K1 hK1 => ?_)
  refine reg_seq (N := 81) (bs := [(0, .slice A0 l0.length cp0), (1, .int .i64 a1)]) (I := fun x => Below w.heap.size w x) (ps := [IsV (.slice none 0 0), VI 0]) (by kernel_rfl) ?_ ?_ rfl hS HB0 ?_ ?_
  ·exact fun x y hI hb => below_step hI hb
  ·exact .v (.v (.nil))
  ·refine .on rfl (fun a w hS hI hp => does_val (x_assign rfl (rfl)) rfl) ?_
   refine .on rfl (fun a w hS hI hp => does_val (x_assign rfl (rfl)) rfl) ?_
   exact .nil
  clear hS
  intro at2 w3 hS hI hp
  have hBw3_w := hI
  have hBw3_w3 := Below.refl w3.heap.size w3
  clear hp hI
  refine hK1 _ _ ?_
  (try clear hK1 K1)
  refine wp_scope_straight ?_
  refine wp_seq_k (fun K4 hK4 => ?_)
  refine wp_seq_k (fun K5 hK5 => ?_)
  refine reg_seq (N := 81) (bs := [(0, .slice A0 l0.length cp0), (1, .int .i64 a1)]) (I := fun x => Below w.heap.size w x ∧ Below w3.heap.size w3 x) (ps := [VI a1, VB (decide (a1 < 0)), VB (decide (a1 < 0)), VU, VU, VU, VU, VB true]) (by kernel_rfl) ?_ ?_ rfl hS ⟨hBw3_w, hBw3_w3⟩ ?_ ?_
  ·exact fun x y hI hb => ⟨below_step hI.1 hb, below_step hI.2 hb⟩
  ·exact .v (.v (.v (.v (.v (.v (.v (.v (.nil))))))))
  ·refine .ms 1 rfl rfl rfl ?_
   refine .on rfl (fun a w hS hI hp => does_val (x_bin rfl (hp.V 0 rfl rfl) (rfl) (b_lss _ _ _ _ _ _)) rfl) ?_
   refine .mv 1 rfl rfl rfl rfl ?_
   iterate 4 refine .sn 2 14 rfl rfl rfl rfl rfl ((decide_eq_true c1)) ?_
   refine .on rfl (fun a w hS hI hp => does_val (x_pickT rfl ((hp.V 2 rfl rfl).trans (bT (decide_eq_true c1))) (rfl)) rfl) ?_
   exact .nil
  clear hS
  intro at6 w7 hS hI hp
  have hBw7_w := hI.1
  have hBw7_w3 := hI.2
  have hv19 : sl _ 19 = .bool true := hp 7 (by decide)
  have hBw7_w7 := Below.refl w7.heap.size w7
  have hS := hS.cons hv19
  clear hp hI hv19
  refine hK5 _ _ ?_
  (try clear hK5 K5)
  refine wp_cond_true ((hS.get 0 rfl).trans (bT rfl)) ?_
  refine wp_seq_k (fun K8 hK8 => ?_)
  refine reg_seq (N := 81) (bs := [(19, .bool true), (0, .slice A0 l0.length cp0), (1, .int .i64 a1)]) (I := fun x => Below w.heap.size w x ∧ Below w7.heap.size w7 x) (ps := [IsV (.slice none 0 0), VI 1]) (by kernel_rfl) ?_ ?_ rfl hS ⟨hBw7_w, hBw7_w7⟩ ?_ ?_
  ·exact fun x y hI hb => ⟨below_step hI.1 hb, below_step hI.2 hb⟩
  ·exact .v (.v (.nil))
  ·refine .on rfl (fun a w hS hI hp => does_val (x_assign rfl (rfl)) rfl) ?_
   refine .on rfl (fun a w hS hI hp => does_val (x_assign rfl (rfl)) rfl) ?_
   exact .nil
  clear hS
  intro at9 w10 hS hI hp
  have hBw10_w := hI.1
  have hBw10_w7 := hI.2
  replace hS := hS.nil
  have hv4 : sl _ 4 = .slice none 0 0 := hp 0 (by decide)
  have hv5 : sl _ 5 = .int .i64 1 := hp 1 (by decide)
  have hBw10_w10 := Below.refl w10.heap.size w10
  have hS := hS.cons hv4
  have hS := hS.cons hv5
  clear hp hI hv4 hv5
  refine hK8 _ _ ?_
  (try clear hK8 K8)
  refine wp_ret ?_
  (try simp only [Exit.then, Exit.inBlock, Exit.jump, Exit.noGoto])
  exact bodyPost_ret (v := .tuple #[.slice none 0 0, .int .i64 1]) (results_list (rs := [.tmp 4, .tmp 5]) rfl (by simp) (Vals.at (hS.get 1 rfl) (Vals.at (hS.get 0 rfl) .nil))) hS.nodef ⟨.slice none 0 0, rfl, Kd.R_nil _ _ _ _ _, hBw10_w⟩
 rw [if_neg c1] at H
 by_cases c2 : a1 > (l0.length : Int)
 ·rw [if_pos c2] at H
  simp only [Option.some.injEq, Prod.mk.injEq] at H
  obtain ⟨rfl, rfl⟩ := H
  refine calls_of_wp (fn := Try.f21) (by kernel_rfl) rfl ?_
  have hS := St.enter #[.slice A0 l0.length cp0, .int .i64 a1] 81 (by simp) [(0, .slice A0 l0.length cp0), (1, .int .i64 a1)] (by simp)
  have HB0 := Below.refl w.heap.size w
  refine wp_seq_k (fun K1 hK1 => ?_)
  refine reg_seq (N := 81) (bs := [(0, .slice A0 l0.length cp0), (1, .int .i64 a1)]) (I := fun x => Below w.heap.size w x) (ps := [IsV (.slice none 0 0), VI 0]) (by kernel_rfl) ?_ ?_ rfl hS HB0 ?_ ?_
  ·exact fun x y hI hb => below_step hI hb
  ·exact .v (.v (.nil))
  ·refine .on rfl (fun a w hS hI hp => does_val (x_assign rfl (rfl)) rfl) ?_
   refine .on rfl (fun a w hS hI hp => does_val (x_assign rfl (rfl)) rfl) ?_
   exact .nil
  clear hS
  intro at2 w3 hS hI hp
  have hBw3_w := hI
  have hBw3_w3 := Below.refl w3.heap.size w3
  clear hp hI
  refine hK1 _ _ ?_
  (try clear hK1 K1)
  refine wp_scope_straight ?_
  refine wp_seq_k (fun K4 hK4 => ?_)
  refine wp_seq_k (fun K5 hK5 => ?_)
  refine reg_seq (N := 81) (bs := [(0, .slice A0 l0.length cp0), (1, .int .i64 a1)]) (I := fun x => Below w.heap.size w x ∧ Below w3.heap.size w3 x) (ps := [VI a1, VB (decide (a1 < 0)), VB (decide (a1 < 0)), VI a1, IsV (.slice A0 l0.length cp0), VI (l0.length : Int), VB (decide (a1 > (l0.length : Int))), VB (decide (a1 > (l0.length : Int)))]) (by kernel_rfl) ?_ ?_ rfl hS ⟨hBw3_w, hBw3_w3⟩ ?_ ?_
  ·exact fun x y hI hb => ⟨below_step hI.1 hb, below_step hI.2 hb⟩
  ·exact .v (.v (.v (.v (.v (.v (.v (.v (.nil))))))))
  ·refine .ms 1 rfl rfl rfl ?_
   refine .on rfl (fun a w hS hI hp => does_val (x_bin rfl (hp.V 0 rfl rfl) (rfl) (b_lss _ _ _ _ _ _)) rfl) ?_
   refine .mv 1 rfl rfl rfl rfl ?_
   refine .oy 2 14 rfl rfl rfl rfl rfl ((decide_eq_false c1)) (fun a w hS hI hp => does_val (x_move rfl (hS.get 1 rfl)) rfl) ?_
   refine .oy 2 14 rfl rfl rfl rfl rfl ((decide_eq_false c1)) (fun a w hS hI hp => does_val (x_move rfl (hS.get 0 rfl)) rfl) ?_
   refine .oy 2 14 rfl rfl rfl rfl rfl ((decide_eq_false c1)) (fun a w hS hI hp => does_val (x_len (e := 5) rfl (by kernel_rfl) (hp.V 4 rfl rfl)) rfl) ?_
   refine .oy 2 14 rfl rfl rfl rfl rfl ((decide_eq_false c1)) (fun a w hS hI hp => does_val (x_bin rfl (hp.V 3 rfl rfl) (hp.V 5 rfl rfl) (b_gtr _ _ _ _ _ _)) rfl) ?_
   refine .on rfl (fun a w hS hI hp => does_val (x_pickF rfl ((hp.V 2 rfl rfl).trans (bF (decide_eq_false c1))) (hp.V 6 rfl rfl)) rfl) ?_
   exact .nil
  clear hS
  intro at6 w7 hS hI hp
  have hBw7_w := hI.1
  have hBw7_w3 := hI.2
  have hv19 : sl _ 19 = .bool (decide (a1 > (l0.length : Int))) := hp 7 (by decide)
  have hBw7_w7 := Below.refl w7.heap.size w7
  have hS := hS.cons hv19
  clear hp hI hv19
  refine hK5 _ _ ?_
  (try clear hK5 K5)
  refine wp_cond_true ((hS.get 0 rfl).trans (bT (decide_eq_true c2))) ?_
  refine wp_seq_k (fun K8 hK8 => ?_)
  refine reg_seq (N := 81) (bs := [(19, .bool (decide (a1 > (l0.length : Int)))), (0, .slice A0 l0.length cp0), (1, .int .i64 a1)]) (I := fun x => Below w.heap.size w x ∧ Below w7.heap.size w7 x) (ps := [IsV (.slice none 0 0), VI 1]) (by kernel_rfl) ?_ ?_ rfl hS ⟨hBw7_w, hBw7_w7⟩ ?_ ?_
  ·exact fun x y hI hb => ⟨below_step hI.1 hb, below_step hI.2 hb⟩
  ·exact .v (.v (.nil))
  ·refine .on rfl (fun a w hS hI hp => does_val (x_assign rfl (rfl)) rfl) ?_
   refine .on rfl (fun a w hS hI hp => does_val (x_assign rfl (rfl)) rfl) ?_
   exact .nil
  clear hS
  intro at9 w10 hS hI hp
  have hBw10_w := hI.1
  have hBw10_w7 := hI.2
  replace hS := hS.nil
  have hv4 : sl _ 4 = .slice none 0 0 := hp 0 (by decide)
  have hv5 : sl _ 5 = .int .i64 1 := hp 1 (by decide)
  have hBw10_w10 := Below.refl w10.heap.size w10
  have hS := hS.cons hv4
  have hS := hS.cons hv5
  clear hp hI hv4 hv5
  refine hK8 _ _ ?_
  (try clear hK8 K8)
  refine wp_ret ?_
  (try simp only [Exit.then, Exit.inBlock, Exit.jump, Exit.noGoto])
  exact bodyPost_ret (v := .tuple #[.slice none 0 0, .int .i64 1]) (results_list (rs := [.tmp 4, .tmp 5]) rfl (by simp) (Vals.at (hS.get 1 rfl) (Vals.at (hS.get 0 rfl) .nil))) hS.nodef ⟨.slice none 0 0, rfl, Kd.R_nil _ _ _ _ _, hBw10_w⟩
 rw [if_neg c2] at H
 refine calls_of_wp (fn := Try.f21) (by kernel_rfl) rfl ?_
 have hS := St.enter #[.slice A0 l0.length cp0, .int .i64 a1] 81 (by simp) [(0, .slice A0 l0.length cp0), (1, .int .i64 a1)] (by simp)
 have HB0 := Below.refl w.heap.size w
 refine wp_seq_k (fun K1 hK1 => ?_)
 refine reg_seq (N := 81) (bs := [(0, .slice A0 l0.length cp0), (1, .int .i64 a1)]) (I := fun x => Below w.heap.size w x) (ps := [IsV (.slice none 0 0), VI 0]) (by kernel_rfl) ?_ ?_ rfl hS HB0 ?_ ?_
 ·exact fun x y hI hb => below_step hI hb
 ·exact .v (.v (.nil))
 ·refine .on rfl (fun a w hS hI hp => does_val (x_assign rfl (rfl)) rfl) ?_
  refine .on rfl (fun a w hS hI hp => does_val (x_assign rfl (rfl)) rfl) ?_
  exact .nil
 clear hS
 intro at2 w3 hS hI hp
 have hBw3_w := hI
 have hBw3_w3 := Below.refl w3.heap.size w3
 clear hp hI
 refine hK1 _ _ ?_
 (try clear hK1 K1)
 refine wp_scope_straight ?_
 refine wp_seq_k (fun K4 hK4 => ?_)
 refine wp_seq_k (fun K5 hK5 => ?_)
 refine reg_seq (N := 81) (bs := [(0, .slice A0 l0.length cp0), (1, .int .i64 a1)]) (I := fun x => Below w.heap.size w x ∧ Below w3.heap.size w3 x) (ps := [VI a1, VB (decide (a1 < 0)), VB (decide (a1 < 0)), VI a1, IsV (.slice A0 l0.length cp0), VI (l0.length : Int), VB (decide (a1 > (l0.length : Int))), VB (decide (a1 > (l0.length : Int)))]) (by kernel_rfl) ?_ ?_ rfl hS ⟨hBw3_w, hBw3_w3⟩ ?_ ?_
 ·exact fun x y hI hb => ⟨below_step hI.1 hb, below_step hI.2 hb⟩
 ·exact .v (.v (.v (.v (.v (.v (.v (.v (.nil))))))))
 ·refine .ms 1 rfl rfl rfl ?_
  refine .on rfl (fun a w hS hI hp => does_val (x_bin rfl (hp.V 0 rfl rfl) (rfl) (b_lss _ _ _ _ _ _)) rfl) ?_
  refine .mv 1 rfl rfl rfl rfl ?_
  refine .oy 2 14 rfl rfl rfl rfl rfl ((decide_eq_false c1)) (fun a w hS hI hp => does_val (x_move rfl (hS.get 1 rfl)) rfl) ?_
  refine .oy 2 14 rfl rfl rfl rfl rfl ((decide_eq_false c1)) (fun a w hS hI hp => does_val (x_move rfl (hS.get 0 rfl)) rfl) ?_
  refine .oy 2 14 rfl rfl rfl rfl rfl ((decide_eq_false c1)) (fun a w hS hI hp => does_val (x_len (e := 5) rfl (by kernel_rfl) (hp.V 4 rfl rfl)) rfl) ?_
  refine .oy 2 14 rfl rfl rfl rfl rfl ((decide_eq_false c1)) (fun a w hS hI hp => does_val (x_bin rfl (hp.V 3 rfl rfl) (hp.V 5 rfl rfl) (b_gtr _ _ _ _ _ _)) rfl) ?_
  refine .on rfl (fun a w hS hI hp => does_val (x_pickF rfl ((hp.V 2 rfl rfl).trans (bF (decide_eq_false c1))) (hp.V 6 rfl rfl)) rfl) ?_
  exact .nil
 clear hS
 intro at6 w7 hS hI hp
 have hBw7_w := hI.1
 have hBw7_w3 := hI.2
 have hv19 : sl _ 19 = .bool (decide (a1 > (l0.length : Int))) := hp 7 (by decide)
 have hBw7_w7 := Below.refl w7.heap.size w7
 have hS := hS.cons hv19
 clear hp hI hv19
 refine hK5 _ _ ?_
 (try clear hK5 K5)
 refine wp_cond_false ((hS.get 0 rfl).trans (bF (decide_eq_false c2))) ?_
 refine wp_skip ?_
 refine hK4 _ _ ?_
 (try clear hK4 K4)
 refine wp_seq_k (fun K8 hK8 => ?_)
 refine reg_seq (N := 81) (bs := [(19, .bool (decide (a1 > (l0.length : Int)))), (0, .slice A0 l0.length cp0), (1, .int .i64 a1)]) (I := fun x => Below w.heap.size w x ∧ Below w7.heap.size w7 x) (ps := [IsV (.slice none 0 0)]) (by kernel_rfl) ?_ ?_ rfl hS ⟨hBw7_w, hBw7_w7⟩ ?_ ?_
 ·exact fun x y hI hb => ⟨below_step hI.1 hb, below_step hI.2 hb⟩
 ·exact .v (.nil)
 ·refine .on rfl (fun a w hS hI hp => does_val (x_assign rfl (rfl)) rfl) ?_
  exact .nil
 clear hS
 intro at9 w10 hS hI hp
 have hBw10_w := hI.1
 have hBw10_w7 := hI.2
 replace hS := ((hS.nil).cons (hS.get 2 rfl)).cons (hS.get 1 rfl)
 have hv6 : sl _ 6 = .slice none 0 0 := hp 0 (by decide)
 have hBw10_w10 := Below.refl w10.heap.size w10
 have hS := hS.cons hv6
 clear hp hI hv6
 refine hK8 _ _ ?_
 (try clear hK8 K8)
 refine wp_seq_k (fun K11 hK11 => ?_)
 refine reg_seq (N := 81) (bs := [(6, .slice none 0 0), (0, .slice A0 l0.length cp0), (1, .int .i64 a1)]) (I := fun x => Below w.heap.size w x ∧ Below w10.heap.size w10 x) (ps := [VI 0]) (by kernel_rfl) ?_ ?_ rfl hS ⟨hBw10_w, hBw10_w10⟩ ?_ ?_
 ·exact fun x y hI hb => ⟨below_step hI.1 hb, below_step hI.2 hb⟩
 ·exact .v (.nil)
 ·refine .on rfl (fun a w hS hI hp => does_val (x_assign rfl (rfl)) rfl) ?_
  exact .nil
 clear hS
 intro at12 w13 hS hI hp
 have hBw13_w := hI.1
 have hBw13_w10 := hI.2
 have hv7 : sl _ 7 = .int .i64 0 := hp 0 (by decide)
 have hBw13_w13 := Below.refl w13.heap.size w13
 have hS := hS.cons hv7
 clear hp hI hv7
 refine hK11 _ _ ?_
 (try clear hK11 K11)
 refine wp_seq_k (fun K14 hK14 => ?_)
 refine wp_label ?_
 refine hK14 _ _ ?_
 (try clear hK14 K14)
 refine wp_seq_k (fun K15 hK15 => ?_)
 refine wp_block ?_
 replace hS := ((((hS.nil).cons (hS.get 0 rfl)).cons (hS.get 1 rfl)).cons (hS.get 3 rfl)).cons (hS.get 2 rfl)
 refine wp_loop_ghost (fun n_ a_ wL1 => ∃ (y1_0 : List Int) (AL1_0 : Option Addr) (CL1_0 : Nat) (x1_1 : Int) (y1_6 : List (S26)) (AL1_6 : Option Addr) (CL1_6 : Nat) (x1_7 : Int), tlv_Get.l1 k n_ y1_0 x1_1 y1_6 x1_7 = some (r1, r2) ∧ St 81 [(0, .slice AL1_0 y1_0.length CL1_0), (1, .int .i64 x1_1), (6, .slice AL1_6 y1_6.length CL1_6), (7, .int .i64 x1_7)] a_ ∧ Below w.heap.size w wL1 ∧ y1_0.length ≤ CL1_0 ∧ Kd.C (Kd.int .u8) w AL1_0 y1_0.length y1_0 ∧ y1_6.length ≤ CL1_6 ∧ Kd.R k26 26 wL1 w.heap.size (fun _ => True) (.slice AL1_6 y1_6.length CL1_6) y1_6) k ⟨l0, A0, cp0, a1, [], none, 0, 0, H, hS, hBw13_w, HC0, (HR0), (Nat.le_refl _), (Kd.R_nil _ _ _ _ _)⟩ ?_
 clear H hS
 rintro n1 aL1 wL1 ⟨y1_0, AL1_0, CL1_0, x1_1, y1_6, AL1_6, CL1_6, x1_7, H, hS, hBwL1_w, hr1_0, hcL1_0, hr1_6, hoL1_6⟩
 rcases n1 with _ | n1
 ·exact absurd H (by simp [tlv_Get.l1])
 rw [tlv_Get.l1] at H
 (try dsimp only at H)
 by_cases c3 : x1_1 < (y1_0.length : Int)
 rotate_left
 ·rw [if_neg c3] at H
  by_cases c4 : x1_7 = 0
  rotate_left
  ·rw [if_neg c4] at H
   simp only [Option.some.injEq, Prod.mk.injEq] at H
   obtain ⟨rfl, rfl⟩ := H
   have hBwL1_wL1 := Below.refl wL1.heap.size wL1
   refine wp_seq_k (fun K1001 hK1001 => ?_)
   refine wp_seq_k (fun K1002 hK1002 => ?_)
   refine reg_seq (N := 81) (bs := [(0, .slice AL1_0 y1_0.length CL1_0), (1, .int .i64 x1_1), (6, .slice AL1_6 y1_6.length CL1_6), (7, .int .i64 x1_7)]) (I := fun x => Below w.heap.size w x ∧ Below wL1.heap.size wL1 x) (ps := [VI x1_1, IsV (.slice AL1_0 y1_0.length CL1_0), VI (y1_0.length : Int), VB (decide (x1_1 < (y1_0.length : Int)))]) (by kernel_rfl) ?_ ?_ rfl hS ⟨hBwL1_w, hBwL1_wL1⟩ ?_ ?_
   ·exact fun x y hI hb => ⟨below_step hI.1 hb, below_step hI.2 hb⟩
   ·exact .v (.v (.v (.v (.nil))))
   ·refine .ms 1 rfl rfl rfl ?_
    refine .ms 0 rfl rfl rfl ?_
    refine .on rfl (fun a w hS hI hp => does_val (x_len (e := 5) rfl (by kernel_rfl) (hp.V 1 rfl rfl)) rfl) ?_
    refine .on rfl (fun a w hS hI hp => does_val (x_bin rfl (hp.V 0 rfl rfl) (hp.V 2 rfl rfl) (b_lss _ _ _ _ _ _)) rfl) ?_
    exact .nil
   clear hS
   intro at1003 w1004 hS hI hp
   have hBw1004_w := hI.1
   have hBw1004_wL1 := hI.2
   have hv23 : sl _ 23 = .bool (decide (x1_1 < (y1_0.length : Int))) := hp 3 (by decide)
   have hBw1004_w1004 := Below.refl w1004.heap.size w1004
   have hS := hS.cons hv23
   clear hp hI hv23
   refine hK1002 _ _ ?_
   (try clear hK1002 K1002)
   refine wp_cond_false ((hS.get 0 rfl).trans (bF (decide_eq_false c3))) ?_
   refine wp_exit ?_
   (try simp only [Exit.then, Exit.inBlock, reduceIte])
   refine hK15 _ _ ?_
   (try clear hK15 K15)
   refine wp_seq_k (fun K1005 hK1005 => ?_)
   refine wp_seq_k (fun K1006 hK1006 => ?_)
   refine reg_seq (N := 81) (bs := [(23, .bool (decide (x1_1 < (y1_0.length : Int)))), (0, .slice AL1_0 y1_0.length CL1_0), (1, .int .i64 x1_1), (6, .slice AL1_6 y1_6.length CL1_6), (7, .int .i64 x1_7)]) (I := fun x => Below w.heap.size w x ∧ Below wL1.heap.size wL1 x ∧ Below w1004.heap.size w1004 x) (ps := [VI x1_7, VB (!decide (x1_7 = 0))]) (by kernel_rfl) ?_ ?_ rfl hS ⟨hBw1004_w, hBw1004_wL1, hBw1004_w1004⟩ ?_ ?_
   ·exact fun x y hI hb => ⟨below_step hI.1 hb, below_step hI.2.1 hb, below_step hI.2.2 hb⟩
   ·exact .v (.v (.nil))
   ·refine .ms 4 rfl rfl rfl ?_
    refine .on rfl (fun a w hS hI hp => does_val (x_bin rfl (hp.V 0 rfl rfl) (rfl) (b_neq _ _ _ _ _ _)) rfl) ?_
    exact .nil
   clear hS
   intro at1007 w1008 hS hI hp
   have hBw1008_w := hI.1
   have hBw1008_wL1 := hI.2.1
   have hBw1008_w1004 := hI.2.2
   replace hS := ((hS.nil).cons (hS.get 4 rfl)).cons (hS.get 3 rfl)
   have hv78 : sl _ 78 = .bool (!decide (x1_7 = 0)) := hp 1 (by decide)
   have hBw1008_w1008 := Below.refl w1008.heap.size w1008
   have hS := hS.cons hv78
   clear hp hI hv78
   refine hK1006 _ _ ?_
   (try clear hK1006 K1006)
   refine wp_cond_true ((hS.get 0 rfl).trans (bT (congrArg (!·) (decide_eq_false c4)))) ?_
   refine wp_seq_k (fun K1009 hK1009 => ?_)
   refine reg_seq (N := 81) (bs := [(78, .bool (!decide (x1_7 = 0))), (6, .slice AL1_6 y1_6.length CL1_6), (7, .int .i64 x1_7)]) (I := fun x => Below w.heap.size w x ∧ Below wL1.heap.size wL1 x ∧ Below w1008.heap.size w1008 x) (ps := [VI x1_7, IsV (.slice none 0 0), VI x1_7]) (by kernel_rfl) ?_ ?_ rfl hS ⟨hBw1008_w, hBw1008_wL1, hBw1008_w1008⟩ ?_ ?_
   ·exact fun x y hI hb => ⟨below_step hI.1 hb, below_step hI.2.1 hb, below_step hI.2.2 hb⟩
   ·exact .v (.v (.v (.nil)))
   ·refine .ms 2 rfl rfl rfl ?_
    refine .on rfl (fun a w hS hI hp => does_val (x_assign rfl (rfl)) rfl) ?_
    refine .asg 0 rfl rfl rfl rfl ?_
    exact .nil
   clear hS
   intro at1010 w1011 hS hI hp
   have hBw1011_w := hI.1
   have hBw1011_wL1 := hI.2.1
   have hBw1011_w1008 := hI.2.2
   replace hS := hS.nil
   have hv4 : sl _ 4 = .slice none 0 0 := hp 1 (by decide)
   have hv5 : sl _ 5 = .int .i64 x1_7 := hp 2 (by decide)
   have hBw1011_w1011 := Below.refl w1011.heap.size w1011
   have hS := hS.cons hv4
   have hS := hS.cons hv5
   clear hp hI hv4 hv5
   refine hK1009 _ _ ?_
   (try clear hK1009 K1009)
   refine wp_ret ?_
   (try simp only [Exit.then, Exit.inBlock, Exit.jump, Exit.noGoto])
   exact bodyPost_ret (v := .tuple #[.slice none 0 0, .int .i64 x1_7]) (results_list (rs := [.tmp 4, .tmp 5]) rfl (by simp) (Vals.at (hS.get 1 rfl) (Vals.at (hS.get 0 rfl) .nil))) hS.nodef ⟨.slice none 0 0, rfl, Kd.R_nil _ _ _ _ _, hBw1011_w⟩
  rw [if_pos c4] at H
  simp only [Option.some.injEq, Prod.mk.injEq] at H
  obtain ⟨rfl, rfl⟩ := H
  have hBwL1_wL1 := Below.refl wL1.heap.size wL1
  refine wp_seq_k (fun K1001 hK1001 => ?_)
  refine wp_seq_k (fun K1002 hK1002 => ?_)
  refine reg_seq (N := 81) (bs := [(0, .slice AL1_0 y1_0.length CL1_0), (1, .int .i64 x1_1), (6, .slice AL1_6 y1_6.length CL1_6), (7, .int .i64 x1_7)]) (I := fun x => Below w.heap.size w x ∧ Below wL1.heap.size wL1 x) (ps := [VI x1_1, IsV (.slice AL1_0 y1_0.length CL1_0), VI (y1_0.length : Int), VB (decide (x1_1 < (y1_0.length : Int)))]) (by kernel_rfl) ?_ ?_ rfl hS ⟨hBwL1_w, hBwL1_wL1⟩ ?_ ?_
  ·exact fun x y hI hb => ⟨below_step hI.1 hb, below_step hI.2 hb⟩
  ·exact .v (.v (.v (.v (.nil))))
  ·refine .ms 1 rfl rfl rfl ?_
   refine .ms 0 rfl rfl rfl ?_
   refine .on rfl (fun a w hS hI hp => does_val (x_len (e := 5) rfl (by kernel_rfl) (hp.V 1 rfl rfl)) rfl) ?_
   refine .on rfl (fun a w hS hI hp => does_val (x_bin rfl (hp.V 0 rfl rfl) (hp.V 2 rfl rfl) (b_lss _ _ _ _ _ _)) rfl) ?_
   exact .nil
  clear hS
  intro at1003 w1004 hS hI hp
  have hBw1004_w := hI.1
  have hBw1004_wL1 := hI.2
  have hv23 : sl _ 23 = .bool (decide (x1_1 < (y1_0.length : Int))) := hp 3 (by decide)
  have hBw1004_w1004 := Below.refl w1004.heap.size w1004
  have hS := hS.cons hv23
  clear hp hI hv23
  refine hK1002 _ _ ?_
  (try clear hK1002 K1002)
  refine wp_cond_false ((hS.get 0 rfl).trans (bF (decide_eq_false c3))) ?_
  refine wp_exit ?_
  (try simp only [Exit.then, Exit.inBlock, reduceIte])
  refine hK15 _ _ ?_
  (try clear hK15 K15)
  refine wp_seq_k (fun K1005 hK1005 => ?_)
  refine wp_seq_k (fun K1006 hK1006 => ?_)
  refine reg_seq (N := 81) (bs := [(23, .bool (decide (x1_1 < (y1_0.length : Int)))), (0, .slice AL1_0 y1_0.length CL1_0), (1, .int .i64 x1_1), (6, .slice AL1_6 y1_6.length CL1_6), (7, .int .i64 x1_7)]) (I := fun x => Below w.heap.size w x ∧ Below wL1.heap.size wL1 x ∧ Below w1004.heap.size w1004 x) (ps := [VI x1_7, VB (!decide (x1_7 = 0))]) (by kernel_rfl) ?_ ?_ rfl hS ⟨hBw1004_w, hBw1004_wL1, hBw1004_w1004⟩ ?_ ?_
  ·exact fun x y hI hb => ⟨below_step hI.1 hb, below_step hI.2.1 hb, below_step hI.2.2 hb⟩
  ·exact .v (.v (.nil))
  ·refine .ms 4 rfl rfl rfl ?_
   refine .on rfl (fun a w hS hI hp => does_val (x_bin rfl (hp.V 0 rfl rfl) (rfl) (b_neq _ _ _ _ _ _)) rfl) ?_
   exact .nil
  clear hS
  intro at1007 w1008 hS hI hp
  have hBw1008_w := hI.1
  have hBw1008_wL1 := hI.2.1
  have hBw1008_w1004 := hI.2.2
  replace hS := ((hS.nil).cons (hS.get 4 rfl)).cons (hS.get 3 rfl)
  have hv78 : sl _ 78 = .bool (!decide (x1_7 = 0)) := hp 1 (by decide)
  have hBw1008_w1008 := Below.refl w1008.heap.size w1008
  have hS := hS.cons hv78
  clear hp hI hv78
  refine hK1006 _ _ ?_
  (try clear hK1006 K1006)
  refine wp_cond_false ((hS.get 0 rfl).trans (bF (congrArg (!·) (decide_eq_true c4)))) ?_
  refine wp_skip ?_
  refine hK1005 _ _ ?_
  (try clear hK1005 K1005)
  refine wp_seq_k (fun K1009 hK1009 => ?_)
  refine reg_seq (N := 81) (bs := [(78, .bool (!decide (x1_7 = 0))), (6, .slice AL1_6 y1_6.length CL1_6), (7, .int .i64 x1_7)]) (I := fun x => Below w.heap.size w x ∧ Below wL1.heap.size wL1 x ∧ Below w1008.heap.size w1008 x) (ps := [IsV (.slice AL1_6 y1_6.length CL1_6), IsV (.slice AL1_6 y1_6.length CL1_6), VI 0]) (by kernel_rfl) ?_ ?_ rfl hS ⟨hBw1008_w, hBw1008_wL1, hBw1008_w1008⟩ ?_ ?_
  ·exact fun x y hI hb => ⟨below_step hI.1 hb, below_step hI.2.1 hb, below_step hI.2.2 hb⟩
  ·exact .v (.v (.v (.nil)))
  ·refine .ms 1 rfl rfl rfl ?_
   refine .asg 0 rfl rfl rfl rfl ?_
   refine .on rfl (fun a w hS hI hp => does_val (x_assign rfl (rfl)) rfl) ?_
   exact .nil
  clear hS
  intro at1010 w1011 hS hI hp
  have hBw1011_w := hI.1
  have hBw1011_wL1 := hI.2.1
  have hBw1011_w1008 := hI.2.2
  replace hS := hS.nil
  have hv4 : sl _ 4 = .slice AL1_6 y1_6.length CL1_6 := hp 1 (by decide)
  have hv5 : sl _ 5 = .int .i64 0 := hp 2 (by decide)
  have hBw1011_w1011 := Below.refl w1011.heap.size w1011
  have hS := hS.cons hv4
  have hS := hS.cons hv5
  clear hp hI hv4 hv5
  refine hK1009 _ _ ?_
  (try clear hK1009 K1009)
  refine wp_ret ?_
  (try simp only [Exit.then, Exit.inBlock, Exit.jump, Exit.noGoto])
  exact bodyPost_ret (v := .tuple #[.slice AL1_6 y1_6.length CL1_6, .int .i64 0]) (results_list (rs := [.tmp 4, .tmp 5]) rfl (by simp) (Vals.at (hS.get 1 rfl) (Vals.at (hS.get 0 rfl) .nil))) hS.nodef ⟨.slice AL1_6 y1_6.length CL1_6, rfl, Kd.R_lower (Kd.R_below hoL1_6 hBw1011_wL1) (Nat.le_refl _), hBw1011_w⟩
 rw [if_pos c3] at H
 obtain ⟨t1006, At1006, H⟩ := Option.bind_eq_some_iff.mp H
 obtain ⟨t1006_1, t1006_2⟩ := t1006
 (try dsimp only at H)
 by_cases c4 : (y1_6.length : Int) = 8
 ·rw [if_pos c4] at H
  by_cases c5 : 7 = 0
  rotate_left
  ·rw [if_neg c5] at H
   simp only [Option.some.injEq, Prod.mk.injEq] at H
   obtain ⟨rfl, rfl⟩ := H
   have hBwL1_wL1 := Below.refl wL1.heap.size wL1
   refine wp_seq_k (fun K1001 hK1001 => ?_)
   refine wp_seq_k (fun K1002 hK1002 => ?_)
   refine reg_seq (N := 81) (bs := [(0, .slice AL1_0 y1_0.length CL1_0), (1, .int .i64 x1_1), (6, .slice AL1_6 y1_6.length CL1_6), (7, .int .i64 x1_7)]) (I := fun x => Below w.heap.size w x ∧ Below wL1.heap.size wL1 x) (ps := [VI x1_1, IsV (.slice AL1_0 y1_0.length CL1_0), VI (y1_0.length : Int), VB (decide (x1_1 < (y1_0.length : Int)))]) (by kernel_rfl) ?_ ?_ rfl hS ⟨hBwL1_w, hBwL1_wL1⟩ ?_ ?_
   ·exact fun x y hI hb => ⟨below_step hI.1 hb, below_step hI.2 hb⟩
   ·exact .v (.v (.v (.v (.nil))))
   ·refine .ms 1 rfl rfl rfl ?_
    refine .ms 0 rfl rfl rfl ?_
    refine .on rfl (fun a w hS hI hp => does_val (x_len (e := 5) rfl (by kernel_rfl) (hp.V 1 rfl rfl)) rfl) ?_
    refine .on rfl (fun a w hS hI hp => does_val (x_bin rfl (hp.V 0 rfl rfl) (hp.V 2 rfl rfl) (b_lss _ _ _ _ _ _)) rfl) ?_
    exact .nil
   clear hS
   intro at1003 w1004 hS hI hp
   have hBw1004_w := hI.1
   have hBw1004_wL1 := hI.2
   have hv23 : sl _ 23 = .bool (decide (x1_1 < (y1_0.length : Int))) := hp 3 (by decide)
   have hBw1004_w1004 := Below.refl w1004.heap.size w1004
   have hS := hS.cons hv23
   clear hp hI hv23
   refine hK1002 _ _ ?_
   (try clear hK1002 K1002)
   refine wp_cond_true ((hS.get 0 rfl).trans (bT (decide_eq_true c3))) ?_
   refine wp_skip ?_
   refine hK1001 _ _ ?_
   (try clear hK1001 K1001)
   refine wp_block ?_
   refine wp_seq_k (fun K1005 hK1005 => ?_)
   refine reg_seq (N := 81) (bs := [(23, .bool (decide (x1_1 < (y1_0.length : Int)))), (0, .slice AL1_0 y1_0.length CL1_0), (1, .int .i64 x1_1), (6, .slice AL1_6 y1_6.length CL1_6), (7, .int .i64 x1_7)]) (I := fun x => Below w.heap.size w x ∧ Below wL1.heap.size wL1 x ∧ Below w1004.heap.size w1004 x) (ps := [IsV (.slice AL1_0 y1_0.length CL1_0), VI x1_1, VI (wrap64 (x1_1 + 2)), IsV (.tuple #[.int .i64 t1006_1, .bool t1006_2]), IsV (.tuple #[.int .i64 t1006_1, .bool t1006_2]), VI t1006_1, VB t1006_2, VI t1006_1, VB t1006_2]) (by kernel_rfl) ?_ ?_ rfl hS ⟨hBw1004_w, hBw1004_wL1, hBw1004_w1004⟩ ?_ ?_
   ·exact fun x y hI hb => ⟨below_step hI.1 hb, below_step hI.2.1 hb, below_step hI.2.2 hb⟩
   ·exact .v (.v (.v (.v (.v (.v (.v (.v (.v (.nil)))))))))
   ·refine .ms 1 rfl rfl rfl ?_
    refine .ms 2 rfl rfl rfl ?_
    refine .on rfl (fun a w hS hI hp => does_val (x_bin rfl (hp.V 1 rfl rfl) (rfl) (b_add _ _ _ _ _)) rfl) ?_
    refine .on rfl (fun a w hS hI hp => does_call (by kernel_rfl) (ar3 (hp.V 0 rfl rfl) (hp.V 2 rfl rfl) (rfl)) ((octets_Get.calls k _ _ y1_0 (wrap64 (x1_1 + 2)) 2 t1006_1 t1006_2 _ (Kd.C_below hcL1_0 hI.1) hr1_0 At1006).mono fun _ _ h => ⟨_, h.1, h.2.below, rfl⟩)) ?_
    refine .mv 3 rfl rfl rfl rfl ?_
    iterate 2 refine .on rfl (fun a w hS hI hp => does_val (x_extract rfl (hp.V 4 rfl rfl) rfl) rfl) ?_
    refine .asg 5 rfl rfl rfl rfl ?_
    refine .asg 6 rfl rfl rfl rfl ?_
    exact .nil
   clear hS
   intro at1007 w1008 hS hI hp
   have hBw1008_w := hI.1
   have hBw1008_wL1 := hI.2.1
   have hBw1008_w1004 := hI.2.2
   replace hS := ((((hS.nil).cons (hS.get 4 rfl)).cons (hS.get 3 rfl)).cons (hS.get 2 rfl)).cons (hS.get 1 rfl)
   have hv8 : sl _ 8 = .int .i64 t1006_1 := hp 7 (by decide)
   have hv9 : sl _ 9 = .bool t1006_2 := hp 8 (by decide)
   have hBw1008_w1008 := Below.refl w1008.heap.size w1008
   have hS := hS.cons hv8
   have hS := hS.cons hv9
   clear hp hI hv8 hv9
   refine hK1005 _ _ ?_
   (try clear hK1005 K1005)
   refine wp_seq_k (fun K1009 hK1009 => ?_)
   refine wp_block ?_
   refine wp_seq_k (fun K1010 hK1010 => ?_)
   refine reg_seq (N := 81) (bs := [(9, .bool t1006_2), (8, .int .i64 t1006_1), (0, .slice AL1_0 y1_0.length CL1_0), (1, .int .i64 x1_1), (6, .slice AL1_6 y1_6.length CL1_6), (7, .int .i64 x1_7)]) (I := fun x => Below w.heap.size w x ∧ Below wL1.heap.size wL1 x ∧ Below w1008.heap.size w1008 x) (ps := [IsV (.slice AL1_6 y1_6.length CL1_6), VI (y1_6.length : Int), VB (decide ((y1_6.length : Int) = 8)), VB (decide ((y1_6.length : Int) = 8))]) (by kernel_rfl) ?_ ?_ rfl hS ⟨hBw1008_w, hBw1008_wL1, hBw1008_w1008⟩ ?_ ?_
   ·exact fun x y hI hb => ⟨below_step hI.1 hb, below_step hI.2.1 hb, below_step hI.2.2 hb⟩
   ·exact .v (.v (.v (.v (.nil))))
   ·refine .ms 4 rfl rfl rfl ?_
    refine .on rfl (fun a w hS hI hp => does_val (x_len (e := 26) rfl (by kernel_rfl) (hp.V 0 rfl rfl)) rfl) ?_
    refine .on rfl (fun a w hS hI hp => does_val (x_bin rfl (hp.V 1 rfl rfl) (rfl) (b_eql _ _ _ _ _ _)) rfl) ?_
    refine .asg 2 rfl rfl rfl rfl ?_
    exact .nil
   clear hS
   intro at1011 w1012 hS hI hp
   have hBw1012_w := hI.1
   have hBw1012_wL1 := hI.2.1
   have hBw1012_w1008 := hI.2.2
   have hv31 : sl _ 31 = .bool (decide ((y1_6.length : Int) = 8)) := hp 3 (by decide)
   have hBw1012_w1012 := Below.refl w1012.heap.size w1012
   have hS := hS.cons hv31
   clear hp hI hv31
   refine hK1010 _ _ ?_
   (try clear hK1010 K1010)
   refine wp_cond_true ((hS.get 0 rfl).trans (bT (decide_eq_true c4))) ?_
   replace hS := ((((((hS.nil).cons (hS.get 5 rfl)).cons (hS.get 4 rfl)).cons (hS.get 3 rfl)).cons (hS.get 2 rfl)).cons (hS.get 1 rfl)).cons (hS.get 0 rfl)
   refine reg_seq (N := 81) (bs := [(31, .bool (decide ((y1_6.length : Int) = 8))), (9, .bool t1006_2), (8, .int .i64 t1006_1), (0, .slice AL1_0 y1_0.length CL1_0), (1, .int .i64 x1_1), (6, .slice AL1_6 y1_6.length CL1_6)]) (I := fun x => Below w.heap.size w x ∧ Below wL1.heap.size wL1 x ∧ Below w1012.heap.size w1012 x) (ps := [VI 7]) (by kernel_rfl) ?_ ?_ rfl hS ⟨hBw1012_w, hBw1012_wL1, hBw1012_w1012⟩ ?_ ?_
   ·exact fun x y hI hb => ⟨below_step hI.1 hb, below_step hI.2.1 hb, below_step hI.2.2 hb⟩
   ·exact .v (.nil)
   ·refine .on rfl (fun a w hS hI hp => does_val (x_assign rfl (rfl)) rfl) ?_
    exact .nil
   clear hS
   intro at1013 w1014 hS hI hp
   have hBw1014_w := hI.1
   have hBw1014_wL1 := hI.2.1
   have hBw1014_w1012 := hI.2.2
   replace hS := ((((hS.nil).cons (hS.get 5 rfl)).cons (hS.get 4 rfl)).cons (hS.get 3 rfl)).cons (hS.get 2 rfl)
   have hv7 : sl _ 7 = .int .i64 7 := hp 0 (by decide)
   have hBw1014_w1014 := Below.refl w1014.heap.size w1014
   have hS := hS.cons hv7
   clear hp hI hv7
   refine hK1009 _ _ ?_
   (try clear hK1009 K1009)
   refine wp_seq_k (fun K1015 hK1015 => ?_)
   refine wp_seq_k (fun K1016 hK1016 => ?_)
   refine reg_seq (N := 81) (bs := [(7, .int .i64 7), (8, .int .i64 t1006_1), (0, .slice AL1_0 y1_0.length CL1_0), (1, .int .i64 x1_1), (6, .slice AL1_6 y1_6.length CL1_6)]) (I := fun x => Below w.heap.size w x ∧ Below wL1.heap.size wL1 x ∧ Below w1014.heap.size w1014 x) (ps := [VI 7, VB (!decide (7 = 0))]) (by kernel_rfl) ?_ ?_ rfl hS ⟨hBw1014_w, hBw1014_wL1, hBw1014_w1014⟩ ?_ ?_
   ·exact fun x y hI hb => ⟨below_step hI.1 hb, below_step hI.2.1 hb, below_step hI.2.2 hb⟩
   ·exact .v (.v (.nil))
   ·refine .ms 0 rfl rfl rfl ?_
    refine .on rfl (fun a w hS hI hp => does_val (x_bin rfl (hp.V 0 rfl rfl) (rfl) (b_neq _ _ _ _ _ _)) rfl) ?_
    exact .nil
   clear hS
   intro at1017 w1018 hS hI hp
   have hBw1018_w := hI.1
   have hBw1018_wL1 := hI.2.1
   have hBw1018_w1014 := hI.2.2
   have hv52 : sl _ 52 = .bool (!decide (7 = 0)) := hp 1 (by decide)
   have hBw1018_w1018 := Below.refl w1018.heap.size w1018
   have hS := hS.cons hv52
   clear hp hI hv52
   refine hK1016 _ _ ?_
   (try clear hK1016 K1016)
   refine wp_cond_true ((hS.get 0 rfl).trans (bT (congrArg (!·) (decide_eq_false c5)))) ?_
   refine wp_exit ?_
   (try simp only [Exit.then, Exit.inBlock, reduceIte])
   refine hK15 _ _ ?_
   (try clear hK15 K15)
   refine wp_seq_k (fun K1019 hK1019 => ?_)
   refine wp_seq_k (fun K1020 hK1020 => ?_)
   refine reg_seq (N := 81) (bs := [(52, .bool (!decide (7 = 0))), (7, .int .i64 7), (8, .int .i64 t1006_1), (0, .slice AL1_0 y1_0.length CL1_0), (1, .int .i64 x1_1), (6, .slice AL1_6 y1_6.length CL1_6)]) (I := fun x => Below w.heap.size w x ∧ Below wL1.heap.size wL1 x ∧ Below w1018.heap.size w1018 x) (ps := [VI 7, VB (!decide (7 = 0))]) (by kernel_rfl) ?_ ?_ rfl hS ⟨hBw1018_w, hBw1018_wL1, hBw1018_w1018⟩ ?_ ?_
   ·exact fun x y hI hb => ⟨below_step hI.1 hb, below_step hI.2.1 hb, below_step hI.2.2 hb⟩
   ·exact .v (.v (.nil))
   ·refine .ms 1 rfl rfl rfl ?_
    refine .on rfl (fun a w hS hI hp => does_val (x_bin rfl (hp.V 0 rfl rfl) (rfl) (b_neq _ _ _ _ _ _)) rfl) ?_
    exact .nil
   clear hS
   intro at1021 w1022 hS hI hp
   have hBw1022_w := hI.1
   have hBw1022_wL1 := hI.2.1
   have hBw1022_w1018 := hI.2.2
   replace hS := ((hS.nil).cons (hS.get 5 rfl)).cons (hS.get 1 rfl)
   have hv78 : sl _ 78 = .bool (!decide (7 = 0)) := hp 1 (by decide)
   have hBw1022_w1022 := Below.refl w1022.heap.size w1022
   have hS := hS.cons hv78
   clear hp hI hv78
   refine hK1020 _ _ ?_
   (try clear hK1020 K1020)
   refine wp_cond_true ((hS.get 0 rfl).trans (bT (congrArg (!·) (decide_eq_false c5)))) ?_
   refine wp_seq_k (fun K1023 hK1023 => ?_)
   refine reg_seq (N := 81) (bs := [(78, .bool (!decide (7 = 0))), (7, .int .i64 7), (6, .slice AL1_6 y1_6.length CL1_6)]) (I := fun x => Below w.heap.size w x ∧ Below wL1.heap.size wL1 x ∧ Below w1022.heap.size w1022 x) (ps := [VI 7, IsV (.slice none 0 0), VI 7]) (by kernel_rfl) ?_ ?_ rfl hS ⟨hBw1022_w, hBw1022_wL1, hBw1022_w1022⟩ ?_ ?_
   ·exact fun x y hI hb => ⟨below_step hI.1 hb, below_step hI.2.1 hb, below_step hI.2.2 hb⟩
   ·exact .v (.v (.v (.nil)))
   ·refine .ms 1 rfl rfl rfl ?_
    refine .on rfl (fun a w hS hI hp => does_val (x_assign rfl (rfl)) rfl) ?_
    refine .asg 0 rfl rfl rfl rfl ?_
    exact .nil
   clear hS
   intro at1024 w1025 hS hI hp
   have hBw1025_w := hI.1
   have hBw1025_wL1 := hI.2.1
   have hBw1025_w1022 := hI.2.2
   replace hS := hS.nil
   have hv4 : sl _ 4 = .slice none 0 0 := hp 1 (by decide)
   have hv5 : sl _ 5 = .int .i64 7 := hp 2 (by decide)
   have hBw1025_w1025 := Below.refl w1025.heap.size w1025
   have hS := hS.cons hv4
   have hS := hS.cons hv5
   clear hp hI hv4 hv5
   refine hK1023 _ _ ?_
   (try clear hK1023 K1023)
   refine wp_ret ?_
   (try simp only [Exit.then, Exit.inBlock, Exit.jump, Exit.noGoto])
   exact bodyPost_ret (v := .tuple #[.slice none 0 0, .int .i64 7]) (results_list (rs := [.tmp 4, .tmp 5]) rfl (by simp) (Vals.at (hS.get 1 rfl) (Vals.at (hS.get 0 rfl) .nil))) hS.nodef ⟨.slice none 0 0, rfl, Kd.R_nil _ _ _ _ _, hBw1025_w⟩
  rw [if_pos c5] at H
  obtain ⟨t1020, At1020, H⟩ := Option.bind_eq_some_iff.mp H
  obtain ⟨t1020_1, t1020_2⟩ := t1020
  (try dsimp only at H)
  by_cases c6 : 0 ≤ (wrap64 (x1_1 + 4))
  rotate_left
  ·rw [if_neg c6] at H
   exact absurd H (by simp)
  rw [if_pos c6] at H
  by_cases c7 : (wrap64 (x1_1 + 4)) ≤ (wrap64 ((wrap64 (x1_1 + 4)) + t1006_1))
  rotate_left
  ·rw [if_neg c7] at H
   exact absurd H (by simp)
  rw [if_pos c7] at H
  by_cases c8 : (wrap64 ((wrap64 (x1_1 + 4)) + t1006_1)) ≤ (y1_0.length : Int)
  rotate_left
  ·rw [if_neg c8] at H
   exact absurd H (by simp)
  rw [if_pos c8] at H
  by_cases c9 : (y1_6.length + [(⟨t1020_1, strOfNums ((y1_0.take (wrap64 ((wrap64 (x1_1 + 4)) + t1006_1) : Int).toNat).drop (wrap64 (x1_1 + 4) : Int).toNat)⟩ : S26)].length) * 24 ≤ 140737488355328
  rotate_left
  ·rw [if_neg c9] at H
   exact absurd H (by simp)
  rw [if_pos c9] at H
  have hBwL1_wL1 := Below.refl wL1.heap.size wL1
  refine wp_seq_k (fun K1001 hK1001 => ?_)
  refine wp_seq_k (fun K1002 hK1002 => ?_)
  refine reg_seq (N := 81) (bs := [(0, .slice AL1_0 y1_0.length CL1_0), (1, .int .i64 x1_1), (6, .slice AL1_6 y1_6.length CL1_6), (7, .int .i64 x1_7)]) (I := fun x => Below w.heap.size w x ∧ Below wL1.heap.size wL1 x) (ps := [VI x1_1, IsV (.slice AL1_0 y1_0.length CL1_0), VI (y1_0.length : Int), VB (decide (x1_1 < (y1_0.length : Int)))]) (by kernel_rfl) ?_ ?_ rfl hS ⟨hBwL1_w, hBwL1_wL1⟩ ?_ ?_
  ·exact fun x y hI hb => ⟨below_step hI.1 hb, below_step hI.2 hb⟩
  ·exact .v (.v (.v (.v (.nil))))
  ·refine .ms 1 rfl rfl rfl ?_
   refine .ms 0 rfl rfl rfl ?_
   refine .on rfl (fun a w hS hI hp => does_val (x_len (e := 5) rfl (by kernel_rfl) (hp.V 1 rfl rfl)) rfl) ?_
   refine .on rfl (fun a w hS hI hp => does_val (x_bin rfl (hp.V 0 rfl rfl) (hp.V 2 rfl rfl) (b_lss _ _ _ _ _ _)) rfl) ?_
   exact .nil
  clear hS
  intro at1003 w1004 hS hI hp
  have hBw1004_w := hI.1
  have hBw1004_wL1 := hI.2
  have hv23 : sl _ 23 = .bool (decide (x1_1 < (y1_0.length : Int))) := hp 3 (by decide)
  have hBw1004_w1004 := Below.refl w1004.heap.size w1004
  have hS := hS.cons hv23
  clear hp hI hv23
  refine hK1002 _ _ ?_
  (try clear hK1002 K1002)
  refine wp_cond_true ((hS.get 0 rfl).trans (bT (decide_eq_true c3))) ?_
  refine wp_skip ?_
  refine hK1001 _ _ ?_
  (try clear hK1001 K1001)
  refine wp_block ?_
  refine wp_seq_k (fun K1005 hK1005 => ?_)
  refine reg_seq (N := 81) (bs := [(23, .bool (decide (x1_1 < (y1_0.length : Int)))), (0, .slice AL1_0 y1_0.length CL1_0), (1, .int .i64 x1_1), (6, .slice AL1_6 y1_6.length CL1_6), (7, .int .i64 x1_7)]) (I := fun x => Below w.heap.size w x ∧ Below wL1.heap.size wL1 x ∧ Below w1004.heap.size w1004 x) (ps := [IsV (.slice AL1_0 y1_0.length CL1_0), VI x1_1, VI (wrap64 (x1_1 + 2)), IsV (.tuple #[.int .i64 t1006_1, .bool t1006_2]), IsV (.tuple #[.int .i64 t1006_1, .bool t1006_2]), VI t1006_1, VB t1006_2, VI t1006_1, VB t1006_2]) (by kernel_rfl) ?_ ?_ rfl hS ⟨hBw1004_w, hBw1004_wL1, hBw1004_w1004⟩ ?_ ?_
  ·exact fun x y hI hb => ⟨below_step hI.1 hb, below_step hI.2.1 hb, below_step hI.2.2 hb⟩
  ·exact .v (.v (.v (.v (.v (.v (.v (.v (.v (.nil)))))))))
  ·refine .ms 1 rfl rfl rfl ?_
   refine .ms 2 rfl rfl rfl ?_
   refine .on rfl (fun a w hS hI hp => does_val (x_bin rfl (hp.V 1 rfl rfl) (rfl) (b_add _ _ _ _ _)) rfl) ?_
   refine .on rfl (fun a w hS hI hp => does_call (by kernel_rfl) (ar3 (hp.V 0 rfl rfl) (hp.V 2 rfl rfl) (rfl)) ((octets_Get.calls k _ _ y1_0 (wrap64 (x1_1 + 2)) 2 t1006_1 t1006_2 _ (Kd.C_below hcL1_0 hI.1) hr1_0 At1006).mono fun _ _ h => ⟨_, h.1, h.2.below, rfl⟩)) ?_
   refine .mv 3 rfl rfl rfl rfl ?_
   iterate 2 refine .on rfl (fun a w hS hI hp => does_val (x_extract rfl (hp.V 4 rfl rfl) rfl) rfl) ?_
   refine .asg 5 rfl rfl rfl rfl ?_
   refine .asg 6 rfl rfl rfl rfl ?_
   exact .nil
  clear hS
  intro at1007 w1008 hS hI hp
  have hBw1008_w := hI.1
  have hBw1008_wL1 := hI.2.1
  have hBw1008_w1004 := hI.2.2
  replace hS := ((((hS.nil).cons (hS.get 4 rfl)).cons (hS.get 3 rfl)).cons (hS.get 2 rfl)).cons (hS.get 1 rfl)
  have hv8 : sl _ 8 = .int .i64 t1006_1 := hp 7 (by decide)
  have hv9 : sl _ 9 = .bool t1006_2 := hp 8 (by decide)
  have hBw1008_w1008 := Below.refl w1008.heap.size w1008
  have hS := hS.cons hv8
  have hS := hS.cons hv9
  clear hp hI hv8 hv9
  refine hK1005 _ _ ?_
  (try clear hK1005 K1005)
  refine wp_seq_k (fun K1009 hK1009 => ?_)
  refine wp_block ?_
  refine wp_seq_k (fun K1010 hK1010 => ?_)
  refine reg_seq (N := 81) (bs := [(9, .bool t1006_2), (8, .int .i64 t1006_1), (0, .slice AL1_0 y1_0.length CL1_0), (1, .int .i64 x1_1), (6, .slice AL1_6 y1_6.length CL1_6), (7, .int .i64 x1_7)]) (I := fun x => Below w.heap.size w x ∧ Below wL1.heap.size wL1 x ∧ Below w1008.heap.size w1008 x) (ps := [IsV (.slice AL1_6 y1_6.length CL1_6), VI (y1_6.length : Int), VB (decide ((y1_6.length : Int) = 8)), VB (decide ((y1_6.length : Int) = 8))]) (by kernel_rfl) ?_ ?_ rfl hS ⟨hBw1008_w, hBw1008_wL1, hBw1008_w1008⟩ ?_ ?_
  ·exact fun x y hI hb => ⟨below_step hI.1 hb, below_step hI.2.1 hb, below_step hI.2.2 hb⟩
  ·exact .v (.v (.v (.v (.nil))))
  ·refine .ms 4 rfl rfl rfl ?_
   refine .on rfl (fun a w hS hI hp => does_val (x_len (e := 26) rfl (by kernel_rfl) (hp.V 0 rfl rfl)) rfl) ?_
   refine .on rfl (fun a w hS hI hp => does_val (x_bin rfl (hp.V 1 rfl rfl) (rfl) (b_eql _ _ _ _ _ _)) rfl) ?_
   refine .asg 2 rfl rfl rfl rfl ?_
   exact .nil
  clear hS
  intro at1011 w1012 hS hI hp
  have hBw1012_w := hI.1
  have hBw1012_wL1 := hI.2.1
  have hBw1012_w1008 := hI.2.2
  have hv31 : sl _ 31 = .bool (decide ((y1_6.length : Int) = 8)) := hp 3 (by decide)
  have hBw1012_w1012 := Below.refl w1012.heap.size w1012
  have hS := hS.cons hv31
  clear hp hI hv31
  refine hK1010 _ _ ?_
  (try clear hK1010 K1010)
  refine wp_cond_true ((hS.get 0 rfl).trans (bT (decide_eq_true c4))) ?_
  replace hS := ((((((hS.nil).cons (hS.get 5 rfl)).cons (hS.get 4 rfl)).cons (hS.get 3 rfl)).cons (hS.get 2 rfl)).cons (hS.get 1 rfl)).cons (hS.get 0 rfl)
  refine reg_seq (N := 81) (bs := [(31, .bool (decide ((y1_6.length : Int) = 8))), (9, .bool t1006_2), (8, .int .i64 t1006_1), (0, .slice AL1_0 y1_0.length CL1_0), (1, .int .i64 x1_1), (6, .slice AL1_6 y1_6.length CL1_6)]) (I := fun x => Below w.heap.size w x ∧ Below wL1.heap.size wL1 x ∧ Below w1012.heap.size w1012 x) (ps := [VI 7]) (by kernel_rfl) ?_ ?_ rfl hS ⟨hBw1012_w, hBw1012_wL1, hBw1012_w1012⟩ ?_ ?_
  ·exact fun x y hI hb => ⟨below_step hI.1 hb, below_step hI.2.1 hb, below_step hI.2.2 hb⟩
  ·exact .v (.nil)
  ·refine .on rfl (fun a w hS hI hp => does_val (x_assign rfl (rfl)) rfl) ?_
   exact .nil
  clear hS
  intro at1013 w1014 hS hI hp
  have hBw1014_w := hI.1
  have hBw1014_wL1 := hI.2.1
  have hBw1014_w1012 := hI.2.2
  replace hS := ((((hS.nil).cons (hS.get 5 rfl)).cons (hS.get 4 rfl)).cons (hS.get 3 rfl)).cons (hS.get 2 rfl)
  have hv7 : sl _ 7 = .int .i64 7 := hp 0 (by decide)
  have hBw1014_w1014 := Below.refl w1014.heap.size w1014
  have hS := hS.cons hv7
  clear hp hI hv7
  refine hK1009 _ _ ?_
  (try clear hK1009 K1009)
  refine wp_seq_k (fun K1015 hK1015 => ?_)
  refine wp_seq_k (fun K1016 hK1016 => ?_)
  refine reg_seq (N := 81) (bs := [(7, .int .i64 7), (8, .int .i64 t1006_1), (0, .slice AL1_0 y1_0.length CL1_0), (1, .int .i64 x1_1), (6, .slice AL1_6 y1_6.length CL1_6)]) (I := fun x => Below w.heap.size w x ∧ Below wL1.heap.size wL1 x ∧ Below w1014.heap.size w1014 x) (ps := [VI 7, VB (!decide (7 = 0))]) (by kernel_rfl) ?_ ?_ rfl hS ⟨hBw1014_w, hBw1014_wL1, hBw1014_w1014⟩ ?_ ?_
  ·exact fun x y hI hb => ⟨below_step hI.1 hb, below_step hI.2.1 hb, below_step hI.2.2 hb⟩
  ·exact .v (.v (.nil))
  ·refine .ms 0 rfl rfl rfl ?_
   refine .on rfl (fun a w hS hI hp => does_val (x_bin rfl (hp.V 0 rfl rfl) (rfl) (b_neq _ _ _ _ _ _)) rfl) ?_
   exact .nil
  clear hS
  intro at1017 w1018 hS hI hp
  have hBw1018_w := hI.1
  have hBw1018_wL1 := hI.2.1
  have hBw1018_w1014 := hI.2.2
  have hv52 : sl _ 52 = .bool (!decide (7 = 0)) := hp 1 (by decide)
  have hBw1018_w1018 := Below.refl w1018.heap.size w1018
  have hS := hS.cons hv52
  clear hp hI hv52
  refine hK1016 _ _ ?_
  (try clear hK1016 K1016)
  refine wp_cond_false ((hS.get 0 rfl).trans (bF (congrArg (!·) (decide_eq_true c5)))) ?_
  refine wp_skip ?_
  refine hK1015 _ _ ?_
  (try clear hK1015 K1015)
  refine wp_seq_k (fun K1019 hK1019 => ?_)
  refine reg_seq (N := 81) (bs := [(52, .bool (!decide (7 = 0))), (7, .int .i64 7), (8, .int .i64 t1006_1), (0, .slice AL1_0 y1_0.length CL1_0), (1, .int .i64 x1_1), (6, .slice AL1_6 y1_6.length CL1_6)]) (I := fun x => Below w.heap.size w x ∧ Below wL1.heap.size wL1 x ∧ Below w1018.heap.size w1018 x) (ps := [IsV (.slice AL1_0 y1_0.length CL1_0), VI x1_1, IsV (.tuple #[.int .i64 t1020_1, .bool t1020_2]), IsV (.tuple #[.int .i64 t1020_1, .bool t1020_2]), VI t1020_1, VB t1020_2, VI t1020_1, VB t1020_2]) (by kernel_rfl) ?_ ?_ rfl hS ⟨hBw1018_w, hBw1018_wL1, hBw1018_w1018⟩ ?_ ?_
  ·exact fun x y hI hb => ⟨below_step hI.1 hb, below_step hI.2.1 hb, below_step hI.2.2 hb⟩
  ·exact .v (.v (.v (.v (.v (.v (.v (.v (.nil))))))))
  ·refine .ms 3 rfl rfl rfl ?_
   refine .ms 4 rfl rfl rfl ?_
   refine .on rfl (fun a w hS hI hp => does_call (by kernel_rfl) (ar3 (hp.V 0 rfl rfl) (hp.V 1 rfl rfl) (rfl)) ((octets_Get.calls k _ _ y1_0 x1_1 2 t1020_1 t1020_2 _ (Kd.C_below hcL1_0 hI.1) hr1_0 At1020).mono fun _ _ h => ⟨_, h.1, h.2.below, rfl⟩)) ?_
   refine .mv 2 rfl rfl rfl rfl ?_
   iterate 2 refine .on rfl (fun a w hS hI hp => does_val (x_extract rfl (hp.V 3 rfl rfl) rfl) rfl) ?_
   refine .asg 4 rfl rfl rfl rfl ?_
   refine .asg 5 rfl rfl rfl rfl ?_
   exact .nil
  clear hS
  intro at1021 w1022 hS hI hp
  have hBw1022_w := hI.1
  have hBw1022_wL1 := hI.2.1
  have hBw1022_w1018 := hI.2.2
  replace hS := (((((hS.nil).cons (hS.get 5 rfl)).cons (hS.get 4 rfl)).cons (hS.get 3 rfl)).cons (hS.get 2 rfl)).cons (hS.get 1 rfl)
  have hv10 : sl _ 10 = .int .i64 t1020_1 := hp 6 (by decide)
  have hBw1022_w1022 := Below.refl w1022.heap.size w1022
  have hS := hS.cons hv10
  clear hp hI hv10
  refine hK1019 _ _ ?_
  (try clear hK1019 K1019)
  refine wp_seq_k (fun K1023 hK1023 => ?_)
  refine reg_seq_tail 13 (N := 81) (bs := [(10, .int .i64 t1020_1), (7, .int .i64 7), (8, .int .i64 t1006_1), (0, .slice AL1_0 y1_0.length CL1_0), (1, .int .i64 x1_1), (6, .slice AL1_6 y1_6.length CL1_6)]) (I := fun x => Below w.heap.size w x ∧ Below wL1.heap.size wL1 x ∧ Below w1022.heap.size w1022 x) (ps := [IsV (.slice AL1_6 y1_6.length CL1_6), VI t1020_1, IsV (.slice AL1_0 y1_0.length CL1_0), VI x1_1, VI (wrap64 (x1_1 + 4)), VI x1_1, VI (wrap64 (x1_1 + 4)), VI t1006_1, VI (wrap64 ((wrap64 (x1_1 + 4)) + t1006_1)), IsC (Kd.int .u8) ((y1_0.take (wrap64 ((wrap64 (x1_1 + 4)) + t1006_1) : Int).toNat).drop (wrap64 (x1_1 + 4) : Int).toNat), IsV (.string (strOfNums ((y1_0.take (wrap64 ((wrap64 (x1_1 + 4)) + t1006_1) : Int).toNat).drop (wrap64 (x1_1 + 4) : Int).toNat))), IsV (.agg #[.int .i64 t1020_1, .string (strOfNums ((y1_0.take (wrap64 ((wrap64 (x1_1 + 4)) + t1006_1) : Int).toNat).drop (wrap64 (x1_1 + 4) : Int).toNat))]), IsR k26 26 w1022.heap.size [(⟨t1020_1, strOfNums ((y1_0.take (wrap64 ((wrap64 (x1_1 + 4)) + t1006_1) : Int).toNat).drop (wrap64 (x1_1 + 4) : Int).toNat)⟩ : S26)]]) (by kernel_rfl) ?_ ?_ rfl hS ⟨hBw1022_w, hBw1022_wL1, hBw1022_w1022⟩ ?_ ?_
  ·exact fun x y hI hb => ⟨below_step hI.1 hb, below_step hI.2.1 hb, below_step hI.2.2 hb⟩
  ·exact .v (.v (.v (.v (.v (.v (.v (.v (.v (.cons (Stays.c _ _) (.v (.v (.cons (Stays.r _ _ _ _) (.nil)))))))))))))
  ·refine .ms 5 rfl rfl rfl ?_
   refine .ms 0 rfl rfl rfl ?_
   refine .ms 3 rfl rfl rfl ?_
   refine .ms 4 rfl rfl rfl ?_
   refine .on rfl (fun a w hS hI hp => does_val (x_bin rfl (hp.V 3 rfl rfl) (rfl) (b_add _ _ _ _ _)) rfl) ?_
   refine .ms 4 rfl rfl rfl ?_
   refine .on rfl (fun a w hS hI hp => does_val (x_bin rfl (hp.V 5 rfl rfl) (rfl) (b_add _ _ _ _ _)) rfl) ?_
   refine .ms 2 rfl rfl rfl ?_
   refine .on rfl (fun a w hS hI hp => does_val (x_bin rfl (hp.V 6 rfl rfl) (hp.V 7 rfl rfl) (b_add _ _ _ _ _)) rfl) ?_
   refine .on rfl (fun a w hS hI hp => does_cut (i := wrap64 (x1_1 + 4)) (j := wrap64 ((wrap64 (x1_1 + 4)) + t1006_1)) rfl (e := 5) (by kernel_rfl) (by kernel_rfl) (hp.V 2 rfl rfl) (.inr ⟨_, rfl, (hp.V 4 rfl rfl)⟩) (.inr ⟨_, rfl, (hp.V 8 rfl rfl)⟩) c6 c7 c8 hr1_0 ((Kd.C_below hcL1_0 hI.1))) ?_
   refine .on rfl (fun a w hS hI hp => (hp.V 9 rfl rfl).elim fun A_ h_ => h_.elim fun c_ h_ => h_.elim fun hv_ h_ => h_.elim fun hl_ hc_ => does_val (x_conv rfl hv_ (Kd.C_string (by kernel_rfl) (e := 5) (by kernel_rfl) (by kernel_rfl) hc_)) rfl) ?_
   refine .on rfl (fun a w hS hI hp => does_val (x_build (vs := [(0, .int .i64 t1020_1), (1, .string (strOfNums ((y1_0.take (wrap64 ((wrap64 (x1_1 + 4)) + t1006_1) : Int).toNat).drop (wrap64 (x1_1 + 4) : Int).toNat)))]) rfl (by rw [Array.toList_map]; exact (show [(0, a.eval (.tmp 60)), (1, a.eval (.tmp 69))] = _ from (li_cons (hp.V 1 rfl rfl) (li_cons (hp.V 10 rfl rfl) rfl)))) (by kernel_rfl)) rfl) ?_
   refine .on rfl (fun a w hS hI hp => does_litT tlv_Get.flat26 w1022.heap.size 22 26 _ [(0, .agg #[.int .i64 t1020_1, .string (strOfNums ((y1_0.take (wrap64 ((wrap64 (x1_1 + 4)) + t1006_1) : Int).toNat).drop (wrap64 (x1_1 + 4) : Int).toNat))])] (⟨t1020_1, strOfNums ((y1_0.take (wrap64 ((wrap64 (x1_1 + 4)) + t1006_1) : Int).toNat).drop (wrap64 (x1_1 + 4) : Int).toNat)⟩ : S26) rfl (by kernel_rfl) (by rw [Array.toList_map]; exact (show [(0, a.eval (.tmp 70))] = _ from (li_cons (hp.V 11 rfl rfl) rfl))) (by kernel_rfl) (hI.2.2).size) ?_
   exact .nil
  clear hS
  intro at1024 w1025 hS hI hp
  have hBw1025_w := hI.1
  have hBw1025_wL1 := hI.2.1
  have hBw1025_w1022 := hI.2.2
  replace hS := (((((hS.nil).cons (hS.get 5 rfl)).cons (hS.get 4 rfl)).cons (hS.get 3 rfl)).cons (hS.get 2 rfl)).cons (hS.get 1 rfl)
  have hv59 : sl _ 59 = .slice AL1_6 y1_6.length CL1_6 := hp 0 (by decide)
  obtain ⟨A1026, C1026, hv71, hl1026, hc1026⟩ := Kd.R_reads (show Kd.R k26 26 w1025 w1022.heap.size (fun _ => True) (sl _ 71) [(⟨t1020_1, strOfNums ((y1_0.take (wrap64 ((wrap64 (x1_1 + 4)) + t1006_1) : Int).toNat).drop (wrap64 (x1_1 + 4) : Int).toNat)⟩ : S26)] from hp 12 (by decide))
  have ho1026 : Kd.R k26 26 w1025 w1022.heap.size (fun _ => True) (.slice A1026 [(⟨t1020_1, strOfNums ((y1_0.take (wrap64 ((wrap64 (x1_1 + 4)) + t1006_1) : Int).toNat).drop (wrap64 (x1_1 + 4) : Int).toNat)⟩ : S26)].length C1026) [(⟨t1020_1, strOfNums ((y1_0.take (wrap64 ((wrap64 (x1_1 + 4)) + t1006_1) : Int).toNat).drop (wrap64 (x1_1 + 4) : Int).toNat)⟩ : S26)] := hv71 ▸ (hp 12 (by decide))
  have hBw1025_w1025 := Below.refl w1025.heap.size w1025
  have hS := hS.cons hv59
  have hS := hS.cons hv71
  clear hp hI hv59 hv71
  show wpList _ _ _ [_, _] _ _
  refine list_step rfl (does_moreT tlv_Get.flat26 (W := w) (.tmp 59) (.tmp 71) 22 26 (.agg #[(.int .i64 0), (.string ⟨#[]⟩)]) 24 rfl (by kernel_rfl) (by kernel_rfl) rfl (by decide) (by decide) _ y1_6 [(⟨t1020_1, strOfNums ((y1_0.take (wrap64 ((wrap64 (x1_1 + 4)) + t1006_1) : Int).toNat).drop (wrap64 (x1_1 + 4) : Int).toNat)⟩ : S26)] _ _ _ (hS.get 1 rfl) (hS.get 0 rfl) (Kd.R_below hoL1_6 hBw1025_wL1) (Kd.C_below hc1026 hBw1025_w1025) hBw1025_w c9) ?_
  rintro vw1027 w1027 ⟨hb, hr, hk⟩
  clear hk
  have hBw1027_w := hb
  replace hS := ((((hS.nil).cons (hS.get 5 rfl)).cons (hS.get 4 rfl)).cons (hS.get 3 rfl)).cons (hS.get 2 rfl)
  have hBw1027_w1027 := Below.refl w1027.heap.size w1027
  obtain ⟨A1028, C1028, rfl, hl1028, hc1028⟩ := Kd.R_reads hr
  have hr1028 := hr
  clear hr
  refine hS.next (v := .slice A1028 ((y1_6 ++ [(⟨t1020_1, strOfNums ((y1_0.take (wrap64 ((wrap64 (x1_1 + 4)) + t1006_1) : Int).toNat).drop (wrap64 (x1_1 + 4) : Int).toNat)⟩ : S26)] : List S26).length) C1028) (d := 72) rfl (by decide) (by rfl) ?_
  clear hS
  intro at1029 hS
  refine list_step rfl (R := fun v w' => Below _ _ w' ∧ (IsV (.slice A1028 ((y1_6 ++ [(⟨t1020_1, strOfNums ((y1_0.take (wrap64 ((wrap64 (x1_1 + 4)) + t1006_1) : Int).toNat).drop (wrap64 (x1_1 + 4) : Int).toNat)⟩ : S26)] : List S26).length) C1028)) v w') (does_val (x_assign rfl (hS.get 0 rfl)) rfl) ?_
  rintro vw1030 w1030 ⟨hb, he⟩
  have hBw1030_w := below_step hBw1027_w hb
  have hBw1030_w1027 := below_step hBw1027_w1027 hb
  have hBw1030_w1030 := Below.refl w1030.heap.size w1030
  obtain rfl : vw1030 = .slice A1028 ((y1_6 ++ [(⟨t1020_1, strOfNums ((y1_0.take (wrap64 ((wrap64 (x1_1 + 4)) + t1006_1) : Int).toNat).drop (wrap64 (x1_1 + 4) : Int).toNat)⟩ : S26)] : List S26).length) C1028 := he
  refine hS.next (v := .slice A1028 ((y1_6 ++ [(⟨t1020_1, strOfNums ((y1_0.take (wrap64 ((wrap64 (x1_1 + 4)) + t1006_1) : Int).toNat).drop (wrap64 (x1_1 + 4) : Int).toNat)⟩ : S26)] : List S26).length) C1028) (d := 6) rfl (by decide) (by rfl) ?_
  clear hS
  intro at1031 hS
  refine wpList_nil ?_
  refine hK1023 _ _ ?_
  (try clear hK1023 K1023)
  refine reg_seq_tail 4 (N := 81) (bs := [(6, .slice A1028 ((y1_6 ++ [(⟨t1020_1, strOfNums ((y1_0.take (wrap64 ((wrap64 (x1_1 + 4)) + t1006_1) : Int).toNat).drop (wrap64 (x1_1 + 4) : Int).toNat)⟩ : S26)] : List S26).length) C1028), (72, .slice A1028 ((y1_6 ++ [(⟨t1020_1, strOfNums ((y1_0.take (wrap64 ((wrap64 (x1_1 + 4)) + t1006_1) : Int).toNat).drop (wrap64 (x1_1 + 4) : Int).toNat)⟩ : S26)] : List S26).length) C1028), (7, .int .i64 7), (8, .int .i64 t1006_1), (0, .slice AL1_0 y1_0.length CL1_0), (1, .int .i64 x1_1)]) (I := fun x => Below w.heap.size w x ∧ Below w1027.heap.size w1027 x ∧ Below w1030.heap.size w1030 x) (ps := [VI x1_1, VI t1006_1, VI (wrap64 (4 + t1006_1)), VI (wrap64 (x1_1 + (wrap64 (4 + t1006_1))))]) (by kernel_rfl) ?_ ?_ rfl hS ⟨hBw1030_w, hBw1030_w1027, hBw1030_w1030⟩ ?_ ?_
  ·exact fun x y hI hb => ⟨below_step hI.1 hb, below_step hI.2.1 hb, below_step hI.2.2 hb⟩
  ·exact .v (.v (.v (.v (.nil))))
  ·refine .ms 5 rfl rfl rfl ?_
   refine .ms 3 rfl rfl rfl ?_
   refine .on rfl (fun a w hS hI hp => does_val (x_bin rfl (rfl) (hp.V 1 rfl rfl) (b_add _ _ _ _ _)) rfl) ?_
   refine .on rfl (fun a w hS hI hp => does_val (x_bin rfl (hp.V 0 rfl rfl) (hp.V 2 rfl rfl) (b_add _ _ _ _ _)) rfl) ?_
   exact .nil
  clear hS
  intro at1032 w1033 hS hI hp
  have hBw1033_w := hI.1
  have hBw1033_w1027 := hI.2.1
  have hBw1033_w1030 := hI.2.2
  replace hS := ((((hS.nil).cons (hS.get 5 rfl)).cons (hS.get 4 rfl)).cons (hS.get 2 rfl)).cons (hS.get 0 rfl)
  have hv76 : sl _ 76 = .int .i64 (wrap64 (x1_1 + (wrap64 (4 + t1006_1)))) := hp 3 (by decide)
  have hBw1033_w1033 := Below.refl w1033.heap.size w1033
  have hS := hS.cons hv76
  clear hp hI hv76
  show wpList _ _ _ [_] _ _
  refine list_step rfl (R := fun v w' => Below _ _ w' ∧ (VI (wrap64 (x1_1 + (wrap64 (4 + t1006_1))))) v w') (does_val (x_assign rfl (hS.get 0 rfl)) rfl) ?_
  rintro vw1034 w1034 ⟨hb, he⟩
  have hBw1034_w := below_step hBw1033_w hb
  have hBw1034_w1027 := below_step hBw1033_w1027 hb
  have hBw1034_w1033 := below_step hBw1033_w1033 hb
  have hBw1034_w1034 := Below.refl w1034.heap.size w1034
  obtain rfl : vw1034 = .int .i64 (wrap64 (x1_1 + (wrap64 (4 + t1006_1)))) := he
  replace hS := ((((hS.nil).cons (hS.get 3 rfl)).cons (hS.get 2 rfl)).cons (hS.get 1 rfl)).cons (hS.get 0 rfl)
  refine hS.next (v := .int .i64 (wrap64 (x1_1 + (wrap64 (4 + t1006_1))))) (d := 1) rfl (by decide) (by rfl) ?_
  clear hS
  intro at1035 hS
  refine wpList_nil ?_
  replace hS := ((((hS.nil).cons (hS.get 3 rfl)).cons (hS.get 2 rfl)).cons (hS.get 0 rfl)).cons (hS.get 4 rfl)
  (try simp only [Exit.then, Exit.inBlock])
  exact ⟨n1, Nat.lt_succ_self _, y1_0, AL1_0, CL1_0, wrap64 (x1_1 + (wrap64 (4 + t1006_1))), (y1_6 ++ [(⟨t1020_1, strOfNums ((y1_0.take (wrap64 ((wrap64 (x1_1 + 4)) + t1006_1) : Int).toNat).drop (wrap64 (x1_1 + 4) : Int).toNat)⟩ : S26)] : List S26), A1028, C1028, 7, H, hS, hBw1034_w, hr1_0, (hcL1_0), hl1028, (Kd.R_lower (Kd.R_below hr1028 hBw1034_w1027) (Nat.le_refl _))⟩
 rw [if_neg c4] at H
 by_cases c5 : t1006_2 = true
 rotate_left
 ·rw [if_neg c5] at H
  by_cases c6 : 2 = 0
  rotate_left
  ·rw [if_neg c6] at H
   simp only [Option.some.injEq, Prod.mk.injEq] at H
   obtain ⟨rfl, rfl⟩ := H
   have hBwL1_wL1 := Below.refl wL1.heap.size wL1
   refine wp_seq_k (fun K1001 hK1001 => ?_)
   refine wp_seq_k (fun K1002 hK1002 => ?_)
   refine reg_seq (N := 81) (bs := [(0, .slice AL1_0 y1_0.length CL1_0), (1, .int .i64 x1_1), (6, .slice AL1_6 y1_6.length CL1_6), (7, .int .i64 x1_7)]) (I := fun x => Below w.heap.size w x ∧ Below wL1.heap.size wL1 x) (ps := [VI x1_1, IsV (.slice AL1_0 y1_0.length CL1_0), VI (y1_0.length : Int), VB (decide (x1_1 < (y1_0.length : Int)))]) (by kernel_rfl) ?_ ?_ rfl hS ⟨hBwL1_w, hBwL1_wL1⟩ ?_ ?_
   ·exact fun x y hI hb => ⟨below_step hI.1 hb, below_step hI.2 hb⟩
   ·exact .v (.v (.v (.v (.nil))))
   ·refine .ms 1 rfl rfl rfl ?_
    refine .ms 0 rfl rfl rfl ?_
    refine .on rfl (fun a w hS hI hp => does_val (x_len (e := 5) rfl (by kernel_rfl) (hp.V 1 rfl rfl)) rfl) ?_
    refine .on rfl (fun a w hS hI hp => does_val (x_bin rfl (hp.V 0 rfl rfl) (hp.V 2 rfl rfl) (b_lss _ _ _ _ _ _)) rfl) ?_
    exact .nil
   clear hS
   intro at1003 w1004 hS hI hp
   have hBw1004_w := hI.1
   have hBw1004_wL1 := hI.2
   have hv23 : sl _ 23 = .bool (decide (x1_1 < (y1_0.length : Int))) := hp 3 (by decide)
   have hBw1004_w1004 := Below.refl w1004.heap.size w1004
   have hS := hS.cons hv23
   clear hp hI hv23
   refine hK1002 _ _ ?_
   (try clear hK1002 K1002)
   refine wp_cond_true ((hS.get 0 rfl).trans (bT (decide_eq_true c3))) ?_
   refine wp_skip ?_
   refine hK1001 _ _ ?_
   (try clear hK1001 K1001)
   refine wp_block ?_
   refine wp_seq_k (fun K1005 hK1005 => ?_)
   refine reg_seq (N := 81) (bs := [(23, .bool (decide (x1_1 < (y1_0.length : Int)))), (0, .slice AL1_0 y1_0.length CL1_0), (1, .int .i64 x1_1), (6, .slice AL1_6 y1_6.length CL1_6), (7, .int .i64 x1_7)]) (I := fun x => Below w.heap.size w x ∧ Below wL1.heap.size wL1 x ∧ Below w1004.heap.size w1004 x) (ps := [IsV (.slice AL1_0 y1_0.length CL1_0), VI x1_1, VI (wrap64 (x1_1 + 2)), IsV (.tuple #[.int .i64 t1006_1, .bool t1006_2]), IsV (.tuple #[.int .i64 t1006_1, .bool t1006_2]), VI t1006_1, VB t1006_2, VI t1006_1, VB t1006_2]) (by kernel_rfl) ?_ ?_ rfl hS ⟨hBw1004_w, hBw1004_wL1, hBw1004_w1004⟩ ?_ ?_
   ·exact fun x y hI hb => ⟨below_step hI.1 hb, below_step hI.2.1 hb, below_step hI.2.2 hb⟩
   ·exact .v (.v (.v (.v (.v (.v (.v (.v (.v (.nil)))))))))
   ·refine .ms 1 rfl rfl rfl ?_
    refine .ms 2 rfl rfl rfl ?_
    refine .on rfl (fun a w hS hI hp => does_val (x_bin rfl (hp.V 1 rfl rfl) (rfl) (b_add _ _ _ _ _)) rfl) ?_
    refine .on rfl (fun a w hS hI hp => does_call (by kernel_rfl) (ar3 (hp.V 0 rfl rfl) (hp.V 2 rfl rfl) (rfl)) ((octets_Get.calls k _ _ y1_0 (wrap64 (x1_1 + 2)) 2 t1006_1 t1006_2 _ (Kd.C_below hcL1_0 hI.1) hr1_0 At1006).mono fun _ _ h => ⟨_, h.1, h.2.below, rfl⟩)) ?_
    refine .mv 3 rfl rfl rfl rfl ?_
    iterate 2 refine .on rfl (fun a w hS hI hp => does_val (x_extract rfl (hp.V 4 rfl rfl) rfl) rfl) ?_
    refine .asg 5 rfl rfl rfl rfl ?_
    refine .asg 6 rfl rfl rfl rfl ?_
    exact .nil
   clear hS
   intro at1007 w1008 hS hI hp
   have hBw1008_w := hI.1
   have hBw1008_wL1 := hI.2.1
   have hBw1008_w1004 := hI.2.2
   replace hS := ((((hS.nil).cons (hS.get 4 rfl)).cons (hS.get 3 rfl)).cons (hS.get 2 rfl)).cons (hS.get 1 rfl)
   have hv8 : sl _ 8 = .int .i64 t1006_1 := hp 7 (by decide)
   have hv9 : sl _ 9 = .bool t1006_2 := hp 8 (by decide)
   have hBw1008_w1008 := Below.refl w1008.heap.size w1008
   have hS := hS.cons hv8
   have hS := hS.cons hv9
   clear hp hI hv8 hv9
   refine hK1005 _ _ ?_
   (try clear hK1005 K1005)
   refine wp_seq_k (fun K1009 hK1009 => ?_)
   refine wp_block ?_
   refine wp_seq_k (fun K1010 hK1010 => ?_)
   refine reg_seq (N := 81) (bs := [(9, .bool t1006_2), (8, .int .i64 t1006_1), (0, .slice AL1_0 y1_0.length CL1_0), (1, .int .i64 x1_1), (6, .slice AL1_6 y1_6.length CL1_6), (7, .int .i64 x1_7)]) (I := fun x => Below w.heap.size w x ∧ Below wL1.heap.size wL1 x ∧ Below w1008.heap.size w1008 x) (ps := [IsV (.slice AL1_6 y1_6.length CL1_6), VI (y1_6.length : Int), VB (decide ((y1_6.length : Int) = 8)), VB (decide ((y1_6.length : Int) = 8))]) (by kernel_rfl) ?_ ?_ rfl hS ⟨hBw1008_w, hBw1008_wL1, hBw1008_w1008⟩ ?_ ?_
   ·exact fun x y hI hb => ⟨below_step hI.1 hb, below_step hI.2.1 hb, below_step hI.2.2 hb⟩
   ·exact .v (.v (.v (.v (.nil))))
   ·refine .ms 4 rfl rfl rfl ?_
    refine .on rfl (fun a w hS hI hp => does_val (x_len (e := 26) rfl (by kernel_rfl) (hp.V 0 rfl rfl)) rfl) ?_
    refine .on rfl (fun a w hS hI hp => does_val (x_bin rfl (hp.V 1 rfl rfl) (rfl) (b_eql _ _ _ _ _ _)) rfl) ?_
    refine .asg 2 rfl rfl rfl rfl ?_
    exact .nil
   clear hS
   intro at1011 w1012 hS hI hp
   have hBw1012_w := hI.1
   have hBw1012_wL1 := hI.2.1
   have hBw1012_w1008 := hI.2.2
   have hv31 : sl _ 31 = .bool (decide ((y1_6.length : Int) = 8)) := hp 3 (by decide)
   have hBw1012_w1012 := Below.refl w1012.heap.size w1012
   have hS := hS.cons hv31
   clear hp hI hv31
   refine hK1010 _ _ ?_
   (try clear hK1010 K1010)
   refine wp_cond_false ((hS.get 0 rfl).trans (bF (decide_eq_false c4))) ?_
   refine wp_seq_k (fun K1013 hK1013 => ?_)
   refine reg_seq (N := 81) (bs := [(31, .bool (decide ((y1_6.length : Int) = 8))), (9, .bool t1006_2), (8, .int .i64 t1006_1), (0, .slice AL1_0 y1_0.length CL1_0), (1, .int .i64 x1_1), (6, .slice AL1_6 y1_6.length CL1_6), (7, .int .i64 x1_7)]) (I := fun x => Below w.heap.size w x ∧ Below wL1.heap.size wL1 x ∧ Below w1012.heap.size w1012 x) (ps := [VB t1006_2, VB (!t1006_2), VB (!t1006_2), VU, VU, VU, VU, VU, VU, VU, VB true, VB true]) (by kernel_rfl) ?_ ?_ rfl hS ⟨hBw1012_w, hBw1012_wL1, hBw1012_w1012⟩ ?_ ?_
   ·exact fun x y hI hb => ⟨below_step hI.1 hb, below_step hI.2.1 hb, below_step hI.2.2 hb⟩
   ·exact .v (.v (.v (.v (.v (.v (.v (.v (.v (.v (.v (.v (.nil))))))))))))
   ·refine .ms 1 rfl rfl rfl ?_
    refine .on rfl (fun a w hS hI hp => does_val (x_not rfl (hp.V 0 rfl rfl)) rfl) ?_
    refine .mv 1 rfl rfl rfl rfl ?_
    iterate 7 refine .sn 2 38 rfl rfl rfl rfl rfl ((congrArg (!·) (Bool.eq_false_iff.2 c5))) ?_
    refine .on rfl (fun a w hS hI hp => does_val (x_pickT rfl ((hp.V 2 rfl rfl).trans (bT (congrArg (!·) (Bool.eq_false_iff.2 c5)))) (rfl)) rfl) ?_
    refine .asg 10 rfl rfl rfl rfl ?_
    exact .nil
   clear hS
   intro at1014 w1015 hS hI hp
   have hBw1015_w := hI.1
   have hBw1015_wL1 := hI.2.1
   have hBw1015_w1012 := hI.2.2
   replace hS := (((((hS.nil).cons (hS.get 6 rfl)).cons (hS.get 5 rfl)).cons (hS.get 4 rfl)).cons (hS.get 3 rfl)).cons (hS.get 2 rfl)
   have hv35 : sl _ 35 = .bool true := hp 11 (by decide)
   have hBw1015_w1015 := Below.refl w1015.heap.size w1015
   have hS := hS.cons hv35
   clear hp hI hv35
   refine hK1013 _ _ ?_
   (try clear hK1013 K1013)
   refine wp_cond_true ((hS.get 0 rfl).trans (bT rfl)) ?_
   replace hS := (((((hS.nil).cons (hS.get 4 rfl)).cons (hS.get 3 rfl)).cons (hS.get 2 rfl)).cons (hS.get 1 rfl)).cons (hS.get 0 rfl)
   refine reg_seq (N := 81) (bs := [(35, .bool true), (8, .int .i64 t1006_1), (0, .slice AL1_0 y1_0.length CL1_0), (1, .int .i64 x1_1), (6, .slice AL1_6 y1_6.length CL1_6)]) (I := fun x => Below w.heap.size w x ∧ Below wL1.heap.size wL1 x ∧ Below w1015.heap.size w1015 x) (ps := [VI 2]) (by kernel_rfl) ?_ ?_ rfl hS ⟨hBw1015_w, hBw1015_wL1, hBw1015_w1015⟩ ?_ ?_
   ·exact fun x y hI hb => ⟨below_step hI.1 hb, below_step hI.2.1 hb, below_step hI.2.2 hb⟩
   ·exact .v (.nil)
   ·refine .on rfl (fun a w hS hI hp => does_val (x_assign rfl (rfl)) rfl) ?_
    exact .nil
   clear hS
   intro at1016 w1017 hS hI hp
   have hBw1017_w := hI.1
   have hBw1017_wL1 := hI.2.1
   have hBw1017_w1015 := hI.2.2
   replace hS := ((((hS.nil).cons (hS.get 4 rfl)).cons (hS.get 3 rfl)).cons (hS.get 2 rfl)).cons (hS.get 1 rfl)
   have hv7 : sl _ 7 = .int .i64 2 := hp 0 (by decide)
   have hBw1017_w1017 := Below.refl w1017.heap.size w1017
   have hS := hS.cons hv7
   clear hp hI hv7
   refine hK1009 _ _ ?_
   (try clear hK1009 K1009)
   refine wp_seq_k (fun K1018 hK1018 => ?_)
   refine wp_seq_k (fun K1019 hK1019 => ?_)
   refine reg_seq (N := 81) (bs := [(7, .int .i64 2), (8, .int .i64 t1006_1), (0, .slice AL1_0 y1_0.length CL1_0), (1, .int .i64 x1_1), (6, .slice AL1_6 y1_6.length CL1_6)]) (I := fun x => Below w.heap.size w x ∧ Below wL1.heap.size wL1 x ∧ Below w1017.heap.size w1017 x) (ps := [VI 2, VB (!decide (2 = 0))]) (by kernel_rfl) ?_ ?_ rfl hS ⟨hBw1017_w, hBw1017_wL1, hBw1017_w1017⟩ ?_ ?_
   ·exact fun x y hI hb => ⟨below_step hI.1 hb, below_step hI.2.1 hb, below_step hI.2.2 hb⟩
   ·exact .v (.v (.nil))
   ·refine .ms 0 rfl rfl rfl ?_
    refine .on rfl (fun a w hS hI hp => does_val (x_bin rfl (hp.V 0 rfl rfl) (rfl) (b_neq _ _ _ _ _ _)) rfl) ?_
    exact .nil
   clear hS
   intro at1020 w1021 hS hI hp
   have hBw1021_w := hI.1
   have hBw1021_wL1 := hI.2.1
   have hBw1021_w1017 := hI.2.2
   have hv52 : sl _ 52 = .bool (!decide (2 = 0)) := hp 1 (by decide)
   have hBw1021_w1021 := Below.refl w1021.heap.size w1021
   have hS := hS.cons hv52
   clear hp hI hv52
   refine hK1019 _ _ ?_
   (try clear hK1019 K1019)
   refine wp_cond_true ((hS.get 0 rfl).trans (bT (congrArg (!·) (decide_eq_false c6)))) ?_
   refine wp_exit ?_
   (try simp only [Exit.then, Exit.inBlock, reduceIte])
   refine hK15 _ _ ?_
   (try clear hK15 K15)
   refine wp_seq_k (fun K1022 hK1022 => ?_)
   refine wp_seq_k (fun K1023 hK1023 => ?_)
   refine reg_seq (N := 81) (bs := [(52, .bool (!decide (2 = 0))), (7, .int .i64 2), (8, .int .i64 t1006_1), (0, .slice AL1_0 y1_0.length CL1_0), (1, .int .i64 x1_1), (6, .slice AL1_6 y1_6.length CL1_6)]) (I := fun x => Below w.heap.size w x ∧ Below wL1.heap.size wL1 x ∧ Below w1021.heap.size w1021 x) (ps := [VI 2, VB (!decide (2 = 0))]) (by kernel_rfl) ?_ ?_ rfl hS ⟨hBw1021_w, hBw1021_wL1, hBw1021_w1021⟩ ?_ ?_
   ·exact fun x y hI hb => ⟨below_step hI.1 hb, below_step hI.2.1 hb, below_step hI.2.2 hb⟩
   ·exact .v (.v (.nil))
   ·refine .ms 1 rfl rfl rfl ?_
    refine .on rfl (fun a w hS hI hp => does_val (x_bin rfl (hp.V 0 rfl rfl) (rfl) (b_neq _ _ _ _ _ _)) rfl) ?_
    exact .nil
   clear hS
   intro at1024 w1025 hS hI hp
   have hBw1025_w := hI.1
   have hBw1025_wL1 := hI.2.1
   have hBw1025_w1021 := hI.2.2
   replace hS := ((hS.nil).cons (hS.get 5 rfl)).cons (hS.get 1 rfl)
   have hv78 : sl _ 78 = .bool (!decide (2 = 0)) := hp 1 (by decide)
   have hBw1025_w1025 := Below.refl w1025.heap.size w1025
   have hS := hS.cons hv78
   clear hp hI hv78
   refine hK1023 _ _ ?_
   (try clear hK1023 K1023)
   refine wp_cond_true ((hS.get 0 rfl).trans (bT (congrArg (!·) (decide_eq_false c6)))) ?_
   refine wp_seq_k (fun K1026 hK1026 => ?_)
   refine reg_seq (N := 81) (bs := [(78, .bool (!decide (2 = 0))), (7, .int .i64 2), (6, .slice AL1_6 y1_6.length CL1_6)]) (I := fun x => Below w.heap.size w x ∧ Below wL1.heap.size wL1 x ∧ Below w1025.heap.size w1025 x) (ps := [VI 2, IsV (.slice none 0 0), VI 2]) (by kernel_rfl) ?_ ?_ rfl hS ⟨hBw1025_w, hBw1025_wL1, hBw1025_w1025⟩ ?_ ?_
   ·exact fun x y hI hb => ⟨below_step hI.1 hb, below_step hI.2.1 hb, below_step hI.2.2 hb⟩
   ·exact .v (.v (.v (.nil)))
   ·refine .ms 1 rfl rfl rfl ?_
    refine .on rfl (fun a w hS hI hp => does_val (x_assign rfl (rfl)) rfl) ?_
    refine .asg 0 rfl rfl rfl rfl ?_
    exact .nil
   clear hS
   intro at1027 w1028 hS hI hp
   have hBw1028_w := hI.1
   have hBw1028_wL1 := hI.2.1
   have hBw1028_w1025 := hI.2.2
   replace hS := hS.nil
   have hv4 : sl _ 4 = .slice none 0 0 := hp 1 (by decide)
   have hv5 : sl _ 5 = .int .i64 2 := hp 2 (by decide)
   have hBw1028_w1028 := Below.refl w1028.heap.size w1028
   have hS := hS.cons hv4
   have hS := hS.cons hv5
   clear hp hI hv4 hv5
   refine hK1026 _ _ ?_
   (try clear hK1026 K1026)
   refine wp_ret ?_
   (try simp only [Exit.then, Exit.inBlock, Exit.jump, Exit.noGoto])
   exact bodyPost_ret (v := .tuple #[.slice none 0 0, .int .i64 2]) (results_list (rs := [.tmp 4, .tmp 5]) rfl (by simp) (Vals.at (hS.get 1 rfl) (Vals.at (hS.get 0 rfl) .nil))) hS.nodef ⟨.slice none 0 0, rfl, Kd.R_nil _ _ _ _ _, hBw1028_w⟩
  rw [if_pos c6] at H
  obtain ⟨t1023, At1023, H⟩ := Option.bind_eq_some_iff.mp H
  obtain ⟨t1023_1, t1023_2⟩ := t1023
  (try dsimp only at H)
  by_cases c7 : 0 ≤ (wrap64 (x1_1 + 4))
  rotate_left
  ·rw [if_neg c7] at H
   exact absurd H (by simp)
  rw [if_pos c7] at H
  by_cases c8 : (wrap64 (x1_1 + 4)) ≤ (wrap64 ((wrap64 (x1_1 + 4)) + t1006_1))
  rotate_left
  ·rw [if_neg c8] at H
   exact absurd H (by simp)
  rw [if_pos c8] at H
  by_cases c9 : (wrap64 ((wrap64 (x1_1 + 4)) + t1006_1)) ≤ (y1_0.length : Int)
  rotate_left
  ·rw [if_neg c9] at H
   exact absurd H (by simp)
  rw [if_pos c9] at H
  by_cases c10 : (y1_6.length + [(⟨t1023_1, strOfNums ((y1_0.take (wrap64 ((wrap64 (x1_1 + 4)) + t1006_1) : Int).toNat).drop (wrap64 (x1_1 + 4) : Int).toNat)⟩ : S26)].length) * 24 ≤ 140737488355328
  rotate_left
  ·rw [if_neg c10] at H
   exact absurd H (by simp)
  rw [if_pos c10] at H
  have hBwL1_wL1 := Below.refl wL1.heap.size wL1
  refine wp_seq_k (fun K1001 hK1001 => ?_)
  refine wp_seq_k (fun K1002 hK1002 => ?_)
  refine reg_seq (N := 81) (bs := [(0, .slice AL1_0 y1_0.length CL1_0), (1, .int .i64 x1_1), (6, .slice AL1_6 y1_6.length CL1_6), (7, .int .i64 x1_7)]) (I := fun x => Below w.heap.size w x ∧ Below wL1.heap.size wL1 x) (ps := [VI x1_1, IsV (.slice AL1_0 y1_0.length CL1_0), VI (y1_0.length : Int), VB (decide (x1_1 < (y1_0.length : Int)))]) (by kernel_rfl) ?_ ?_ rfl hS ⟨hBwL1_w, hBwL1_wL1⟩ ?_ ?_
  ·exact fun x y hI hb => ⟨below_step hI.1 hb, below_step hI.2 hb⟩
  ·exact .v (.v (.v (.v (.nil))))
  ·refine .ms 1 rfl rfl rfl ?_
   refine .ms 0 rfl rfl rfl ?_
   refine .on rfl (fun a w hS hI hp => does_val (x_len (e := 5) rfl (by kernel_rfl) (hp.V 1 rfl rfl)) rfl) ?_
   refine .on rfl (fun a w hS hI hp => does_val (x_bin rfl (hp.V 0 rfl rfl) (hp.V 2 rfl rfl) (b_lss _ _ _ _ _ _)) rfl) ?_
   exact .nil
  clear hS
  intro at1003 w1004 hS hI hp
  have hBw1004_w := hI.1
  have hBw1004_wL1 := hI.2
  have hv23 : sl _ 23 = .bool (decide (x1_1 < (y1_0.length : Int))) := hp 3 (by decide)
  have hBw1004_w1004 := Below.refl w1004.heap.size w1004
  have hS := hS.cons hv23
  clear hp hI hv23
  refine hK1002 _ _ ?_
  (try clear hK1002 K1002)
  refine wp_cond_true ((hS.get 0 rfl).trans (bT (decide_eq_true c3))) ?_
  refine wp_skip ?_
  refine hK1001 _ _ ?_
  (try clear hK1001 K1001)
  refine wp_block ?_
  refine wp_seq_k (fun K1005 hK1005 => ?_)
  refine reg_seq (N := 81) (bs := [(23, .bool (decide (x1_1 < (y1_0.length : Int)))), (0, .slice AL1_0 y1_0.length CL1_0), (1, .int .i64 x1_1), (6, .slice AL1_6 y1_6.length CL1_6), (7, .int .i64 x1_7)]) (I := fun x => Below w.heap.size w x ∧ Below wL1.heap.size wL1 x ∧ Below w1004.heap.size w1004 x) (ps := [IsV (.slice AL1_0 y1_0.length CL1_0), VI x1_1, VI (wrap64 (x1_1 + 2)), IsV (.tuple #[.int .i64 t1006_1, .bool t1006_2]), IsV (.tuple #[.int .i64 t1006_1, .bool t1006_2]), VI t1006_1, VB t1006_2, VI t1006_1, VB t1006_2]) (by kernel_rfl) ?_ ?_ rfl hS ⟨hBw1004_w, hBw1004_wL1, hBw1004_w1004⟩ ?_ ?_
  ·exact fun x y hI hb => ⟨below_step hI.1 hb, below_step hI.2.1 hb, below_step hI.2.2 hb⟩
  ·exact .v (.v (.v (.v (.v (.v (.v (.v (.v (.nil)))))))))
  ·refine .ms 1 rfl rfl rfl ?_
   refine .ms 2 rfl rfl rfl ?_
   refine .on rfl (fun a w hS hI hp => does_val (x_bin rfl (hp.V 1 rfl rfl) (rfl) (b_add _ _ _ _ _)) rfl) ?_
   refine .on rfl (fun a w hS hI hp => does_call (by kernel_rfl) (ar3 (hp.V 0 rfl rfl) (hp.V 2 rfl rfl) (rfl)) ((octets_Get.calls k _ _ y1_0 (wrap64 (x1_1 + 2)) 2 t1006_1 t1006_2 _ (Kd.C_below hcL1_0 hI.1) hr1_0 At1006).mono fun _ _ h => ⟨_, h.1, h.2.below, rfl⟩)) ?_
   refine .mv 3 rfl rfl rfl rfl ?_
   iterate 2 refine .on rfl (fun a w hS hI hp => does_val (x_extract rfl (hp.V 4 rfl rfl) rfl) rfl) ?_
   refine .asg 5 rfl rfl rfl rfl ?_
   refine .asg 6 rfl rfl rfl rfl ?_
   exact .nil
  clear hS
  intro at1007 w1008 hS hI hp
  have hBw1008_w := hI.1
  have hBw1008_wL1 := hI.2.1
  have hBw1008_w1004 := hI.2.2
  replace hS := ((((hS.nil).cons (hS.get 4 rfl)).cons (hS.get 3 rfl)).cons (hS.get 2 rfl)).cons (hS.get 1 rfl)
  have hv8 : sl _ 8 = .int .i64 t1006_1 := hp 7 (by decide)
  have hv9 : sl _ 9 = .bool t1006_2 := hp 8 (by decide)
  have hBw1008_w1008 := Below.refl w1008.heap.size w1008
  have hS := hS.cons hv8
  have hS := hS.cons hv9
  clear hp hI hv8 hv9
  refine hK1005 _ _ ?_
  (try clear hK1005 K1005)
  refine wp_seq_k (fun K1009 hK1009 => ?_)
  refine wp_block ?_
  refine wp_seq_k (fun K1010 hK1010 => ?_)
  refine reg_seq (N := 81) (bs := [(9, .bool t1006_2), (8, .int .i64 t1006_1), (0, .slice AL1_0 y1_0.length CL1_0), (1, .int .i64 x1_1), (6, .slice AL1_6 y1_6.length CL1_6), (7, .int .i64 x1_7)]) (I := fun x => Below w.heap.size w x ∧ Below wL1.heap.size wL1 x ∧ Below w1008.heap.size w1008 x) (ps := [IsV (.slice AL1_6 y1_6.length CL1_6), VI (y1_6.length : Int), VB (decide ((y1_6.length : Int) = 8)), VB (decide ((y1_6.length : Int) = 8))]) (by kernel_rfl) ?_ ?_ rfl hS ⟨hBw1008_w, hBw1008_wL1, hBw1008_w1008⟩ ?_ ?_
  ·exact fun x y hI hb => ⟨below_step hI.1 hb, below_step hI.2.1 hb, below_step hI.2.2 hb⟩
  ·exact .v (.v (.v (.v (.nil))))
  ·refine .ms 4 rfl rfl rfl ?_
   refine .on rfl (fun a w hS hI hp => does_val (x_len (e := 26) rfl (by kernel_rfl) (hp.V 0 rfl rfl)) rfl) ?_
   refine .on rfl (fun a w hS hI hp => does_val (x_bin rfl (hp.V 1 rfl rfl) (rfl) (b_eql _ _ _ _ _ _)) rfl) ?_
   refine .asg 2 rfl rfl rfl rfl ?_
   exact .nil
  clear hS
  intro at1011 w1012 hS hI hp
  have hBw1012_w := hI.1
  have hBw1012_wL1 := hI.2.1
  have hBw1012_w1008 := hI.2.2
  have hv31 : sl _ 31 = .bool (decide ((y1_6.length : Int) = 8)) := hp 3 (by decide)
  have hBw1012_w1012 := Below.refl w1012.heap.size w1012
  have hS := hS.cons hv31
  clear hp hI hv31
  refine hK1010 _ _ ?_
  (try clear hK1010 K1010)
  refine wp_cond_false ((hS.get 0 rfl).trans (bF (decide_eq_false c4))) ?_
  refine wp_seq_k (fun K1013 hK1013 => ?_)
  refine reg_seq (N := 81) (bs := [(31, .bool (decide ((y1_6.length : Int) = 8))), (9, .bool t1006_2), (8, .int .i64 t1006_1), (0, .slice AL1_0 y1_0.length CL1_0), (1, .int .i64 x1_1), (6, .slice AL1_6 y1_6.length CL1_6), (7, .int .i64 x1_7)]) (I := fun x => Below w.heap.size w x ∧ Below wL1.heap.size wL1 x ∧ Below w1012.heap.size w1012 x) (ps := [VB t1006_2, VB (!t1006_2), VB (!t1006_2), VU, VU, VU, VU, VU, VU, VU, VB true, VB true]) (by kernel_rfl) ?_ ?_ rfl hS ⟨hBw1012_w, hBw1012_wL1, hBw1012_w1012⟩ ?_ ?_
  ·exact fun x y hI hb => ⟨below_step hI.1 hb, below_step hI.2.1 hb, below_step hI.2.2 hb⟩
  ·exact .v (.v (.v (.v (.v (.v (.v (.v (.v (.v (.v (.v (.nil))))))))))))
  ·refine .ms 1 rfl rfl rfl ?_
   refine .on rfl (fun a w hS hI hp => does_val (x_not rfl (hp.V 0 rfl rfl)) rfl) ?_
   refine .mv 1 rfl rfl rfl rfl ?_
   iterate 7 refine .sn 2 38 rfl rfl rfl rfl rfl ((congrArg (!·) (Bool.eq_false_iff.2 c5))) ?_
   refine .on rfl (fun a w hS hI hp => does_val (x_pickT rfl ((hp.V 2 rfl rfl).trans (bT (congrArg (!·) (Bool.eq_false_iff.2 c5)))) (rfl)) rfl) ?_
   refine .asg 10 rfl rfl rfl rfl ?_
   exact .nil
  clear hS
  intro at1014 w1015 hS hI hp
  have hBw1015_w := hI.1
  have hBw1015_wL1 := hI.2.1
  have hBw1015_w1012 := hI.2.2
  replace hS := (((((hS.nil).cons (hS.get 6 rfl)).cons (hS.get 5 rfl)).cons (hS.get 4 rfl)).cons (hS.get 3 rfl)).cons (hS.get 2 rfl)
  have hv35 : sl _ 35 = .bool true := hp 11 (by decide)
  have hBw1015_w1015 := Below.refl w1015.heap.size w1015
  have hS := hS.cons hv35
  clear hp hI hv35
  refine hK1013 _ _ ?_
  (try clear hK1013 K1013)
  refine wp_cond_true ((hS.get 0 rfl).trans (bT rfl)) ?_
  replace hS := (((((hS.nil).cons (hS.get 4 rfl)).cons (hS.get 3 rfl)).cons (hS.get 2 rfl)).cons (hS.get 1 rfl)).cons (hS.get 0 rfl)
  refine reg_seq (N := 81) (bs := [(35, .bool true), (8, .int .i64 t1006_1), (0, .slice AL1_0 y1_0.length CL1_0), (1, .int .i64 x1_1), (6, .slice AL1_6 y1_6.length CL1_6)]) (I := fun x => Below w.heap.size w x ∧ Below wL1.heap.size wL1 x ∧ Below w1015.heap.size w1015 x) (ps := [VI 2]) (by kernel_rfl) ?_ ?_ rfl hS ⟨hBw1015_w, hBw1015_wL1, hBw1015_w1015⟩ ?_ ?_
  ·exact fun x y hI hb => ⟨below_step hI.1 hb, below_step hI.2.1 hb, below_step hI.2.2 hb⟩
  ·exact .v (.nil)
  ·refine .on rfl (fun a w hS hI hp => does_val (x_assign rfl (rfl)) rfl) ?_
   exact .nil
  clear hS
  intro at1016 w1017 hS hI hp
  have hBw1017_w := hI.1
  have hBw1017_wL1 := hI.2.1
  have hBw1017_w1015 := hI.2.2
  replace hS := ((((hS.nil).cons (hS.get 4 rfl)).cons (hS.get 3 rfl)).cons (hS.get 2 rfl)).cons (hS.get 1 rfl)
  have hv7 : sl _ 7 = .int .i64 2 := hp 0 (by decide)
  have hBw1017_w1017 := Below.refl w1017.heap.size w1017
  have hS := hS.cons hv7
  clear hp hI hv7
  refine hK1009 _ _ ?_
  (try clear hK1009 K1009)
  refine wp_seq_k (fun K1018 hK1018 => ?_)
  refine wp_seq_k (fun K1019 hK1019 => ?_)
  refine reg_seq (N := 81) (bs := [(7, .int .i64 2), (8, .int .i64 t1006_1), (0, .slice AL1_0 y1_0.length CL1_0), (1, .int .i64 x1_1), (6, .slice AL1_6 y1_6.length CL1_6)]) (I := fun x => Below w.heap.size w x ∧ Below wL1.heap.size wL1 x ∧ Below w1017.heap.size w1017 x) (ps := [VI 2, VB (!decide (2 = 0))]) (by kernel_rfl) ?_ ?_ rfl hS ⟨hBw1017_w, hBw1017_wL1, hBw1017_w1017⟩ ?_ ?_
  ·exact fun x y hI hb => ⟨below_step hI.1 hb, below_step hI.2.1 hb, below_step hI.2.2 hb⟩
  ·exact .v (.v (.nil))
  ·refine .ms 0 rfl rfl rfl ?_
   refine .on rfl (fun a w hS hI hp => does_val (x_bin rfl (hp.V 0 rfl rfl) (rfl) (b_neq _ _ _ _ _ _)) rfl) ?_
   exact .nil
  clear hS
  intro at1020 w1021 hS hI hp
  have hBw1021_w := hI.1
  have hBw1021_wL1 := hI.2.1
  have hBw1021_w1017 := hI.2.2
  have hv52 : sl _ 52 = .bool (!decide (2 = 0)) := hp 1 (by decide)
  have hBw1021_w1021 := Below.refl w1021.heap.size w1021
  have hS := hS.cons hv52
  clear hp hI hv52
  refine hK1019 _ _ ?_
  (try clear hK1019 K1019)
  refine wp_cond_false ((hS.get 0 rfl).trans (bF (congrArg (!·) (decide_eq_true c6)))) ?_
  refine wp_skip ?_
  refine hK1018 _ _ ?_
  (try clear hK1018 K1018)
  refine wp_seq_k (fun K1022 hK1022 => ?_)
  refine reg_seq (N := 81) (bs := [(52, .bool (!decide (2 = 0))), (7, .int .i64 2), (8, .int .i64 t1006_1), (0, .slice AL1_0 y1_0.length CL1_0), (1, .int .i64 x1_1), (6, .slice AL1_6 y1_6.length CL1_6)]) (I := fun x => Below w.heap.size w x ∧ Below wL1.heap.size wL1 x ∧ Below w1021.heap.size w1021 x) (ps := [IsV (.slice AL1_0 y1_0.length CL1_0), VI x1_1, IsV (.tuple #[.int .i64 t1023_1, .bool t1023_2]), IsV (.tuple #[.int .i64 t1023_1, .bool t1023_2]), VI t1023_1, VB t1023_2, VI t1023_1, VB t1023_2]) (by kernel_rfl) ?_ ?_ rfl hS ⟨hBw1021_w, hBw1021_wL1, hBw1021_w1021⟩ ?_ ?_
  ·exact fun x y hI hb => ⟨below_step hI.1 hb, below_step hI.2.1 hb, below_step hI.2.2 hb⟩
  ·exact .v (.v (.v (.v (.v (.v (.v (.v (.nil))))))))
  ·refine .ms 3 rfl rfl rfl ?_
   refine .ms 4 rfl rfl rfl ?_
   refine .on rfl (fun a w hS hI hp => does_call (by kernel_rfl) (ar3 (hp.V 0 rfl rfl) (hp.V 1 rfl rfl) (rfl)) ((octets_Get.calls k _ _ y1_0 x1_1 2 t1023_1 t1023_2 _ (Kd.C_below hcL1_0 hI.1) hr1_0 At1023).mono fun _ _ h => ⟨_, h.1, h.2.below, rfl⟩)) ?_
   refine .mv 2 rfl rfl rfl rfl ?_
   iterate 2 refine .on rfl (fun a w hS hI hp => does_val (x_extract rfl (hp.V 3 rfl rfl) rfl) rfl) ?_
   refine .asg 4 rfl rfl rfl rfl ?_
   refine .asg 5 rfl rfl rfl rfl ?_
   exact .nil
  clear hS
  intro at1024 w1025 hS hI hp
  have hBw1025_w := hI.1
  have hBw1025_wL1 := hI.2.1
  have hBw1025_w1021 := hI.2.2
  replace hS := (((((hS.nil).cons (hS.get 5 rfl)).cons (hS.get 4 rfl)).cons (hS.get 3 rfl)).cons (hS.get 2 rfl)).cons (hS.get 1 rfl)
  have hv10 : sl _ 10 = .int .i64 t1023_1 := hp 6 (by decide)
  have hBw1025_w1025 := Below.refl w1025.heap.size w1025
  have hS := hS.cons hv10
  clear hp hI hv10
  refine hK1022 _ _ ?_
  (try clear hK1022 K1022)
  refine wp_seq_k (fun K1026 hK1026 => ?_)
  refine reg_seq_tail 13 (N := 81) (bs := [(10, .int .i64 t1023_1), (7, .int .i64 2), (8, .int .i64 t1006_1), (0, .slice AL1_0 y1_0.length CL1_0), (1, .int .i64 x1_1), (6, .slice AL1_6 y1_6.length CL1_6)]) (I := fun x => Below w.heap.size w x ∧ Below wL1.heap.size wL1 x ∧ Below w1025.heap.size w1025 x) (ps := [IsV (.slice AL1_6 y1_6.length CL1_6), VI t1023_1, IsV (.slice AL1_0 y1_0.length CL1_0), VI x1_1, VI (wrap64 (x1_1 + 4)), VI x1_1, VI (wrap64 (x1_1 + 4)), VI t1006_1, VI (wrap64 ((wrap64 (x1_1 + 4)) + t1006_1)), IsC (Kd.int .u8) ((y1_0.take (wrap64 ((wrap64 (x1_1 + 4)) + t1006_1) : Int).toNat).drop (wrap64 (x1_1 + 4) : Int).toNat), IsV (.string (strOfNums ((y1_0.take (wrap64 ((wrap64 (x1_1 + 4)) + t1006_1) : Int).toNat).drop (wrap64 (x1_1 + 4) : Int).toNat))), IsV (.agg #[.int .i64 t1023_1, .string (strOfNums ((y1_0.take (wrap64 ((wrap64 (x1_1 + 4)) + t1006_1) : Int).toNat).drop (wrap64 (x1_1 + 4) : Int).toNat))]), IsR k26 26 w1025.heap.size [(⟨t1023_1, strOfNums ((y1_0.take (wrap64 ((wrap64 (x1_1 + 4)) + t1006_1) : Int).toNat).drop (wrap64 (x1_1 + 4) : Int).toNat)⟩ : S26)]]) (by kernel_rfl) ?_ ?_ rfl hS ⟨hBw1025_w, hBw1025_wL1, hBw1025_w1025⟩ ?_ ?_
  ·exact fun x y hI hb => ⟨below_step hI.1 hb, below_step hI.2.1 hb, below_step hI.2.2 hb⟩
  ·exact .v (.v (.v (.v (.v (.v (.v (.v (.v (.cons (Stays.c _ _) (.v (.v (.cons (Stays.r _ _ _ _) (.nil)))))))))))))
  ·refine .ms 5 rfl rfl rfl ?_
   refine .ms 0 rfl rfl rfl ?_
   refine .ms 3 rfl rfl rfl ?_
   refine .ms 4 rfl rfl rfl ?_
   refine .on rfl (fun a w hS hI hp => does_val (x_bin rfl (hp.V 3 rfl rfl) (rfl) (b_add _ _ _ _ _)) rfl) ?_
   refine .ms 4 rfl rfl rfl ?_
   refine .on rfl (fun a w hS hI hp => does_val (x_bin rfl (hp.V 5 rfl rfl) (rfl) (b_add _ _ _ _ _)) rfl) ?_
   refine .ms 2 rfl rfl rfl ?_
   refine .on rfl (fun a w hS hI hp => does_val (x_bin rfl (hp.V 6 rfl rfl) (hp.V 7 rfl rfl) (b_add _ _ _ _ _)) rfl) ?_
   refine .on rfl (fun a w hS hI hp => does_cut (i := wrap64 (x1_1 + 4)) (j := wrap64 ((wrap64 (x1_1 + 4)) + t1006_1)) rfl (e := 5) (by kernel_rfl) (by kernel_rfl) (hp.V 2 rfl rfl) (.inr ⟨_, rfl, (hp.V 4 rfl rfl)⟩) (.inr ⟨_, rfl, (hp.V 8 rfl rfl)⟩) c7 c8 c9 hr1_0 ((Kd.C_below hcL1_0 hI.1))) ?_
   refine .on rfl (fun a w hS hI hp => (hp.V 9 rfl rfl).elim fun A_ h_ => h_.elim fun c_ h_ => h_.elim fun hv_ h_ => h_.elim fun hl_ hc_ => does_val (x_conv rfl hv_ (Kd.C_string (by kernel_rfl) (e := 5) (by kernel_rfl) (by kernel_rfl) hc_)) rfl) ?_
   refine .on rfl (fun a w hS hI hp => does_val (x_build (vs := [(0, .int .i64 t1023_1), (1, .string (strOfNums ((y1_0.take (wrap64 ((wrap64 (x1_1 + 4)) + t1006_1) : Int).toNat).drop (wrap64 (x1_1 + 4) : Int).toNat)))]) rfl (by rw [Array.toList_map]; exact (show [(0, a.eval (.tmp 60)), (1, a.eval (.tmp 69))] = _ from (li_cons (hp.V 1 rfl rfl) (li_cons (hp.V 10 rfl rfl) rfl)))) (by kernel_rfl)) rfl) ?_
   refine .on rfl (fun a w hS hI hp => does_litT tlv_Get.flat26 w1025.heap.size 22 26 _ [(0, .agg #[.int .i64 t1023_1, .string (strOfNums ((y1_0.take (wrap64 ((wrap64 (x1_1 + 4)) + t1006_1) : Int).toNat).drop (wrap64 (x1_1 + 4) : Int).toNat))])] (⟨t1023_1, strOfNums ((y1_0.take (wrap64 ((wrap64 (x1_1 + 4)) + t1006_1) : Int).toNat).drop (wrap64 (x1_1 + 4) : Int).toNat)⟩ : S26) rfl (by kernel_rfl) (by rw [Array.toList_map]; exact (show [(0, a.eval (.tmp 70))] = _ from (li_cons (hp.V 11 rfl rfl) rfl))) (by kernel_rfl) (hI.2.2).size) ?_
   exact .nil
  clear hS
  intro at1027 w1028 hS hI hp
  have hBw1028_w := hI.1
  have hBw1028_wL1 := hI.2.1
  have hBw1028_w1025 := hI.2.2
  replace hS := (((((hS.nil).cons (hS.get 5 rfl)).cons (hS.get 4 rfl)).cons (hS.get 3 rfl)).cons (hS.get 2 rfl)).cons (hS.get 1 rfl)
  have hv59 : sl _ 59 = .slice AL1_6 y1_6.length CL1_6 := hp 0 (by decide)
  obtain ⟨A1029, C1029, hv71, hl1029, hc1029⟩ := Kd.R_reads (show Kd.R k26 26 w1028 w1025.heap.size (fun _ => True) (sl _ 71) [(⟨t1023_1, strOfNums ((y1_0.take (wrap64 ((wrap64 (x1_1 + 4)) + t1006_1) : Int).toNat).drop (wrap64 (x1_1 + 4) : Int).toNat)⟩ : S26)] from hp 12 (by decide))
  have ho1029 : Kd.R k26 26 w1028 w1025.heap.size (fun _ => True) (.slice A1029 [(⟨t1023_1, strOfNums ((y1_0.take (wrap64 ((wrap64 (x1_1 + 4)) + t1006_1) : Int).toNat).drop (wrap64 (x1_1 + 4) : Int).toNat)⟩ : S26)].length C1029) [(⟨t1023_1, strOfNums ((y1_0.take (wrap64 ((wrap64 (x1_1 + 4)) + t1006_1) : Int).toNat).drop (wrap64 (x1_1 + 4) : Int).toNat)⟩ : S26)] := hv71 ▸ (hp 12 (by decide))
  have hBw1028_w1028 := Below.refl w1028.heap.size w1028
  have hS := hS.cons hv59
  have hS := hS.cons hv71
  clear hp hI hv59 hv71
  show wpList _ _ _ [_, _] _ _
  refine list_step rfl (does_moreT tlv_Get.flat26 (W := w) (.tmp 59) (.tmp 71) 22 26 (.agg #[(.int .i64 0), (.string ⟨#[]⟩)]) 24 rfl (by kernel_rfl) (by kernel_rfl) rfl (by decide) (by decide) _ y1_6 [(⟨t1023_1, strOfNums ((y1_0.take (wrap64 ((wrap64 (x1_1 + 4)) + t1006_1) : Int).toNat).drop (wrap64 (x1_1 + 4) : Int).toNat)⟩ : S26)] _ _ _ (hS.get 1 rfl) (hS.get 0 rfl) (Kd.R_below hoL1_6 hBw1028_wL1) (Kd.C_below hc1029 hBw1028_w1028) hBw1028_w c10) ?_
  rintro vw1030 w1030 ⟨hb, hr, hk⟩
  clear hk
  have hBw1030_w := hb
  replace hS := ((((hS.nil).cons (hS.get 5 rfl)).cons (hS.get 4 rfl)).cons (hS.get 3 rfl)).cons (hS.get 2 rfl)
  have hBw1030_w1030 := Below.refl w1030.heap.size w1030
  obtain ⟨A1031, C1031, rfl, hl1031, hc1031⟩ := Kd.R_reads hr
  have hr1031 := hr
  clear hr
  refine hS.next (v := .slice A1031 ((y1_6 ++ [(⟨t1023_1, strOfNums ((y1_0.take (wrap64 ((wrap64 (x1_1 + 4)) + t1006_1) : Int).toNat).drop (wrap64 (x1_1 + 4) : Int).toNat)⟩ : S26)] : List S26).length) C1031) (d := 72) rfl (by decide) (by rfl) ?_
  clear hS
  intro at1032 hS
  refine list_step rfl (R := fun v w' => Below _ _ w' ∧ (IsV (.slice A1031 ((y1_6 ++ [(⟨t1023_1, strOfNums ((y1_0.take (wrap64 ((wrap64 (x1_1 + 4)) + t1006_1) : Int).toNat).drop (wrap64 (x1_1 + 4) : Int).toNat)⟩ : S26)] : List S26).length) C1031)) v w') (does_val (x_assign rfl (hS.get 0 rfl)) rfl) ?_
  rintro vw1033 w1033 ⟨hb, he⟩
  have hBw1033_w := below_step hBw1030_w hb
  have hBw1033_w1030 := below_step hBw1030_w1030 hb
  have hBw1033_w1033 := Below.refl w1033.heap.size w1033
  obtain rfl : vw1033 = .slice A1031 ((y1_6 ++ [(⟨t1023_1, strOfNums ((y1_0.take (wrap64 ((wrap64 (x1_1 + 4)) + t1006_1) : Int).toNat).drop (wrap64 (x1_1 + 4) : Int).toNat)⟩ : S26)] : List S26).length) C1031 := he
  refine hS.next (v := .slice A1031 ((y1_6 ++ [(⟨t1023_1, strOfNums ((y1_0.take (wrap64 ((wrap64 (x1_1 + 4)) + t1006_1) : Int).toNat).drop (wrap64 (x1_1 + 4) : Int).toNat)⟩ : S26)] : List S26).length) C1031) (d := 6) rfl (by decide) (by rfl) ?_
  clear hS
  intro at1034 hS
  refine wpList_nil ?_
  refine hK1026 _ _ ?_
  (try clear hK1026 K1026)
  refine reg_seq_tail 4 (N := 81) (bs := [(6, .slice A1031 ((y1_6 ++ [(⟨t1023_1, strOfNums ((y1_0.take (wrap64 ((wrap64 (x1_1 + 4)) + t1006_1) : Int).toNat).drop (wrap64 (x1_1 + 4) : Int).toNat)⟩ : S26)] : List S26).length) C1031), (72, .slice A1031 ((y1_6 ++ [(⟨t1023_1, strOfNums ((y1_0.take (wrap64 ((wrap64 (x1_1 + 4)) + t1006_1) : Int).toNat).drop (wrap64 (x1_1 + 4) : Int).toNat)⟩ : S26)] : List S26).length) C1031), (7, .int .i64 2), (8, .int .i64 t1006_1), (0, .slice AL1_0 y1_0.length CL1_0), (1, .int .i64 x1_1)]) (I := fun x => Below w.heap.size w x ∧ Below w1030.heap.size w1030 x ∧ Below w1033.heap.size w1033 x) (ps := [VI x1_1, VI t1006_1, VI (wrap64 (4 + t1006_1)), VI (wrap64 (x1_1 + (wrap64 (4 + t1006_1))))]) (by kernel_rfl) ?_ ?_ rfl hS ⟨hBw1033_w, hBw1033_w1030, hBw1033_w1033⟩ ?_ ?_
  ·exact fun x y hI hb => ⟨below_step hI.1 hb, below_step hI.2.1 hb, below_step hI.2.2 hb⟩
  ·exact .v (.v (.v (.v (.nil))))
  ·refine .ms 5 rfl rfl rfl ?_
   refine .ms 3 rfl rfl rfl ?_
   refine .on rfl (fun a w hS hI hp => does_val (x_bin rfl (rfl) (hp.V 1 rfl rfl) (b_add _ _ _ _ _)) rfl) ?_
   refine .on rfl (fun a w hS hI hp => does_val (x_bin rfl (hp.V 0 rfl rfl) (hp.V 2 rfl rfl) (b_add _ _ _ _ _)) rfl) ?_
   exact .nil
  clear hS
  intro at1035 w1036 hS hI hp
  have hBw1036_w := hI.1
  have hBw1036_w1030 := hI.2.1
  have hBw1036_w1033 := hI.2.2
  replace hS := ((((hS.nil).cons (hS.get 5 rfl)).cons (hS.get 4 rfl)).cons (hS.get 2 rfl)).cons (hS.get 0 rfl)
  have hv76 : sl _ 76 = .int .i64 (wrap64 (x1_1 + (wrap64 (4 + t1006_1)))) := hp 3 (by decide)
  have hBw1036_w1036 := Below.refl w1036.heap.size w1036
  have hS := hS.cons hv76
  clear hp hI hv76
  show wpList _ _ _ [_] _ _
  refine list_step rfl (R := fun v w' => Below _ _ w' ∧ (VI (wrap64 (x1_1 + (wrap64 (4 + t1006_1))))) v w') (does_val (x_assign rfl (hS.get 0 rfl)) rfl) ?_
  rintro vw1037 w1037 ⟨hb, he⟩
  have hBw1037_w := below_step hBw1036_w hb
  have hBw1037_w1030 := below_step hBw1036_w1030 hb
  have hBw1037_w1036 := below_step hBw1036_w1036 hb
  have hBw1037_w1037 := Below.refl w1037.heap.size w1037
  obtain rfl : vw1037 = .int .i64 (wrap64 (x1_1 + (wrap64 (4 + t1006_1)))) := he
  replace hS := ((((hS.nil).cons (hS.get 3 rfl)).cons (hS.get 2 rfl)).cons (hS.get 1 rfl)).cons (hS.get 0 rfl)
  refine hS.next (v := .int .i64 (wrap64 (x1_1 + (wrap64 (4 + t1006_1))))) (d := 1) rfl (by decide) (by rfl) ?_
  clear hS
  intro at1038 hS
  refine wpList_nil ?_
  replace hS := ((((hS.nil).cons (hS.get 3 rfl)).cons (hS.get 2 rfl)).cons (hS.get 0 rfl)).cons (hS.get 4 rfl)
  (try simp only [Exit.then, Exit.inBlock])
  exact ⟨n1, Nat.lt_succ_self _, y1_0, AL1_0, CL1_0, wrap64 (x1_1 + (wrap64 (4 + t1006_1))), (y1_6 ++ [(⟨t1023_1, strOfNums ((y1_0.take (wrap64 ((wrap64 (x1_1 + 4)) + t1006_1) : Int).toNat).drop (wrap64 (x1_1 + 4) : Int).toNat)⟩ : S26)] : List S26), A1031, C1031, 2, H, hS, hBw1037_w, hr1_0, (hcL1_0), hl1031, (Kd.R_lower (Kd.R_below hr1031 hBw1037_w1030) (Nat.le_refl _))⟩
 rw [if_pos c5] at H
 by_cases c6 : t1006_1 > (wrap64 ((wrap64 ((y1_0.length : Int) - x1_1)) - 4))
 ·rw [if_pos c6] at H
  by_cases c7 : 2 = 0
  rotate_left
  ·rw [if_neg c7] at H
   simp only [Option.some.injEq, Prod.mk.injEq] at H
   obtain ⟨rfl, rfl⟩ := H
   have hBwL1_wL1 := Below.refl wL1.heap.size wL1
   refine wp_seq_k (fun K1001 hK1001 => ?_)
   refine wp_seq_k (fun K1002 hK1002 => ?_)
   refine reg_seq (N := 81) (bs := [(0, .slice AL1_0 y1_0.length CL1_0), (1, .int .i64 x1_1), (6, .slice AL1_6 y1_6.length CL1_6), (7, .int .i64 x1_7)]) (I := fun x => Below w.heap.size w x ∧ Below wL1.heap.size wL1 x) (ps := [VI x1_1, IsV (.slice AL1_0 y1_0.length CL1_0), VI (y1_0.length : Int), VB (decide (x1_1 < (y1_0.length : Int)))]) (by kernel_rfl) ?_ ?_ rfl hS ⟨hBwL1_w, hBwL1_wL1⟩ ?_ ?_
   ·exact fun x y hI hb => ⟨below_step hI.1 hb, below_step hI.2 hb⟩
   ·exact .v (.v (.v (.v (.nil))))
   ·refine .ms 1 rfl rfl rfl ?_
    refine .ms 0 rfl rfl rfl ?_
    refine .on rfl (fun a w hS hI hp => does_val (x_len (e := 5) rfl (by kernel_rfl) (hp.V 1 rfl rfl)) rfl) ?_
    refine .on rfl (fun a w hS hI hp => does_val (x_bin rfl (hp.V 0 rfl rfl) (hp.V 2 rfl rfl) (b_lss _ _ _ _ _ _)) rfl) ?_
    exact .nil
   clear hS
   intro at1003 w1004 hS hI hp
   have hBw1004_w := hI.1
   have hBw1004_wL1 := hI.2
   have hv23 : sl _ 23 = .bool (decide (x1_1 < (y1_0.length : Int))) := hp 3 (by decide)
   have hBw1004_w1004 := Below.refl w1004.heap.size w1004
   have hS := hS.cons hv23
   clear hp hI hv23
   refine hK1002 _ _ ?_
   (try clear hK1002 K1002)
   refine wp_cond_true ((hS.get 0 rfl).trans (bT (decide_eq_true c3))) ?_
   refine wp_skip ?_
   refine hK1001 _ _ ?_
   (try clear hK1001 K1001)
   refine wp_block ?_
   refine wp_seq_k (fun K1005 hK1005 => ?_)
   refine reg_seq (N := 81) (bs := [(23, .bool (decide (x1_1 < (y1_0.length : Int)))), (0, .slice AL1_0 y1_0.length CL1_0), (1, .int .i64 x1_1), (6, .slice AL1_6 y1_6.length CL1_6), (7, .int .i64 x1_7)]) (I := fun x => Below w.heap.size w x ∧ Below wL1.heap.size wL1 x ∧ Below w1004.heap.size w1004 x) (ps := [IsV (.slice AL1_0 y1_0.length CL1_0), VI x1_1, VI (wrap64 (x1_1 + 2)), IsV (.tuple #[.int .i64 t1006_1, .bool t1006_2]), IsV (.tuple #[.int .i64 t1006_1, .bool t1006_2]), VI t1006_1, VB t1006_2, VI t1006_1, VB t1006_2]) (by kernel_rfl) ?_ ?_ rfl hS ⟨hBw1004_w, hBw1004_wL1, hBw1004_w1004⟩ ?_ ?_
   ·exact fun x y hI hb => ⟨below_step hI.1 hb, below_step hI.2.1 hb, below_step hI.2.2 hb⟩
   ·exact .v (.v (.v (.v (.v (.v (.v (.v (.v (.nil)))))))))
   ·refine .ms 1 rfl rfl rfl ?_
    refine .ms 2 rfl rfl rfl ?_
    refine .on rfl (fun a w hS hI hp => does_val (x_bin rfl (hp.V 1 rfl rfl) (rfl) (b_add _ _ _ _ _)) rfl) ?_
    refine .on rfl (fun a w hS hI hp => does_call (by kernel_rfl) (ar3 (hp.V 0 rfl rfl) (hp.V 2 rfl rfl) (rfl)) ((octets_Get.calls k _ _ y1_0 (wrap64 (x1_1 + 2)) 2 t1006_1 t1006_2 _ (Kd.C_below hcL1_0 hI.1) hr1_0 At1006).mono fun _ _ h => ⟨_, h.1, h.2.below, rfl⟩)) ?_
    refine .mv 3 rfl rfl rfl rfl ?_
    iterate 2 refine .on rfl (fun a w hS hI hp => does_val (x_extract rfl (hp.V 4 rfl rfl) rfl) rfl) ?_
    refine .asg 5 rfl rfl rfl rfl ?_
    refine .asg 6 rfl rfl rfl rfl ?_
    exact .nil
   clear hS
   intro at1007 w1008 hS hI hp
   have hBw1008_w := hI.1
   have hBw1008_wL1 := hI.2.1
   have hBw1008_w1004 := hI.2.2
   replace hS := ((((hS.nil).cons (hS.get 4 rfl)).cons (hS.get 3 rfl)).cons (hS.get 2 rfl)).cons (hS.get 1 rfl)
   have hv8 : sl _ 8 = .int .i64 t1006_1 := hp 7 (by decide)
   have hv9 : sl _ 9 = .bool t1006_2 := hp 8 (by decide)
   have hBw1008_w1008 := Below.refl w1008.heap.size w1008
   have hS := hS.cons hv8
   have hS := hS.cons hv9
   clear hp hI hv8 hv9
   refine hK1005 _ _ ?_
   (try clear hK1005 K1005)
   refine wp_seq_k (fun K1009 hK1009 => ?_)
   refine wp_block ?_
   refine wp_seq_k (fun K1010 hK1010 => ?_)
   refine reg_seq (N := 81) (bs := [(9, .bool t1006_2), (8, .int .i64 t1006_1), (0, .slice AL1_0 y1_0.length CL1_0), (1, .int .i64 x1_1), (6, .slice AL1_6 y1_6.length CL1_6), (7, .int .i64 x1_7)]) (I := fun x => Below w.heap.size w x ∧ Below wL1.heap.size wL1 x ∧ Below w1008.heap.size w1008 x) (ps := [IsV (.slice AL1_6 y1_6.length CL1_6), VI (y1_6.length : Int), VB (decide ((y1_6.length : Int) = 8)), VB (decide ((y1_6.length : Int) = 8))]) (by kernel_rfl) ?_ ?_ rfl hS ⟨hBw1008_w, hBw1008_wL1, hBw1008_w1008⟩ ?_ ?_
   ·exact fun x y hI hb => ⟨below_step hI.1 hb, below_step hI.2.1 hb, below_step hI.2.2 hb⟩
   ·exact .v (.v (.v (.v (.nil))))
   ·refine .ms 4 rfl rfl rfl ?_
    refine .on rfl (fun a w hS hI hp => does_val (x_len (e := 26) rfl (by kernel_rfl) (hp.V 0 rfl rfl)) rfl) ?_
    refine .on rfl (fun a w hS hI hp => does_val (x_bin rfl (hp.V 1 rfl rfl) (rfl) (b_eql _ _ _ _ _ _)) rfl) ?_
    refine .asg 2 rfl rfl rfl rfl ?_
    exact .nil
   clear hS
   intro at1011 w1012 hS hI hp
   have hBw1012_w := hI.1
   have hBw1012_wL1 := hI.2.1
   have hBw1012_w1008 := hI.2.2
   have hv31 : sl _ 31 = .bool (decide ((y1_6.length : Int) = 8)) := hp 3 (by decide)
   have hBw1012_w1012 := Below.refl w1012.heap.size w1012
   have hS := hS.cons hv31
   clear hp hI hv31
   refine hK1010 _ _ ?_
   (try clear hK1010 K1010)
   refine wp_cond_false ((hS.get 0 rfl).trans (bF (decide_eq_false c4))) ?_
   refine wp_seq_k (fun K1013 hK1013 => ?_)
   refine reg_seq (N := 81) (bs := [(31, .bool (decide ((y1_6.length : Int) = 8))), (9, .bool t1006_2), (8, .int .i64 t1006_1), (0, .slice AL1_0 y1_0.length CL1_0), (1, .int .i64 x1_1), (6, .slice AL1_6 y1_6.length CL1_6), (7, .int .i64 x1_7)]) (I := fun x => Below w.heap.size w x ∧ Below wL1.heap.size wL1 x ∧ Below w1012.heap.size w1012 x) (ps := [VB t1006_2, VB (!t1006_2), VB (!t1006_2), VI t1006_1, IsV (.slice AL1_0 y1_0.length CL1_0), VI (y1_0.length : Int), VI x1_1, VI (wrap64 ((y1_0.length : Int) - x1_1)), VI (wrap64 ((wrap64 ((y1_0.length : Int) - x1_1)) - 4)), VB (decide (t1006_1 > (wrap64 ((wrap64 ((y1_0.length : Int) - x1_1)) - 4)))), VB (decide (t1006_1 > (wrap64 ((wrap64 ((y1_0.length : Int) - x1_1)) - 4)))), VB (decide (t1006_1 > (wrap64 ((wrap64 ((y1_0.length : Int) - x1_1)) - 4))))]) (by kernel_rfl) ?_ ?_ rfl hS ⟨hBw1012_w, hBw1012_wL1, hBw1012_w1012⟩ ?_ ?_
   ·exact fun x y hI hb => ⟨below_step hI.1 hb, below_step hI.2.1 hb, below_step hI.2.2 hb⟩
   ·exact .v (.v (.v (.v (.v (.v (.v (.v (.v (.v (.v (.v (.nil))))))))))))
   ·refine .ms 1 rfl rfl rfl ?_
    refine .on rfl (fun a w hS hI hp => does_val (x_not rfl (hp.V 0 rfl rfl)) rfl) ?_
    refine .mv 1 rfl rfl rfl rfl ?_
    refine .oy 2 38 rfl rfl rfl rfl rfl ((congrArg (!·) c5)) (fun a w hS hI hp => does_val (x_move rfl (hS.get 2 rfl)) rfl) ?_
    refine .oy 2 38 rfl rfl rfl rfl rfl ((congrArg (!·) c5)) (fun a w hS hI hp => does_val (x_move rfl (hS.get 3 rfl)) rfl) ?_
    refine .oy 2 38 rfl rfl rfl rfl rfl ((congrArg (!·) c5)) (fun a w hS hI hp => does_val (x_len (e := 5) rfl (by kernel_rfl) (hp.V 4 rfl rfl)) rfl) ?_
    refine .oy 2 38 rfl rfl rfl rfl rfl ((congrArg (!·) c5)) (fun a w hS hI hp => does_val (x_move rfl (hS.get 4 rfl)) rfl) ?_
    refine .oy 2 38 rfl rfl rfl rfl rfl ((congrArg (!·) c5)) (fun a w hS hI hp => does_val (x_bin rfl (hp.V 5 rfl rfl) (hp.V 6 rfl rfl) (b_sub _ _ _ _ _)) rfl) ?_
    refine .oy 2 38 rfl rfl rfl rfl rfl ((congrArg (!·) c5)) (fun a w hS hI hp => does_val (x_bin rfl (hp.V 7 rfl rfl) (rfl) (b_sub _ _ _ _ _)) rfl) ?_
    refine .oy 2 38 rfl rfl rfl rfl rfl ((congrArg (!·) c5)) (fun a w hS hI hp => does_val (x_bin rfl (hp.V 3 rfl rfl) (hp.V 8 rfl rfl) (b_gtr _ _ _ _ _ _)) rfl) ?_
    refine .on rfl (fun a w hS hI hp => does_val (x_pickF rfl ((hp.V 2 rfl rfl).trans (bF (congrArg (!·) c5))) (hp.V 9 rfl rfl)) rfl) ?_
    refine .asg 10 rfl rfl rfl rfl ?_
    exact .nil
   clear hS
   intro at1014 w1015 hS hI hp
   have hBw1015_w := hI.1
   have hBw1015_wL1 := hI.2.1
   have hBw1015_w1012 := hI.2.2
   replace hS := (((((hS.nil).cons (hS.get 6 rfl)).cons (hS.get 5 rfl)).cons (hS.get 4 rfl)).cons (hS.get 3 rfl)).cons (hS.get 2 rfl)
   have hv35 : sl _ 35 = .bool (decide (t1006_1 > (wrap64 ((wrap64 ((y1_0.length : Int) - x1_1)) - 4)))) := hp 11 (by decide)
   have hBw1015_w1015 := Below.refl w1015.heap.size w1015
   have hS := hS.cons hv35
   clear hp hI hv35
   refine hK1013 _ _ ?_
   (try clear hK1013 K1013)
   refine wp_cond_true ((hS.get 0 rfl).trans (bT (decide_eq_true c6))) ?_
   replace hS := (((((hS.nil).cons (hS.get 4 rfl)).cons (hS.get 3 rfl)).cons (hS.get 2 rfl)).cons (hS.get 1 rfl)).cons (hS.get 0 rfl)
   refine reg_seq (N := 81) (bs := [(35, .bool (decide (t1006_1 > (wrap64 ((wrap64 ((y1_0.length : Int) - x1_1)) - 4))))), (8, .int .i64 t1006_1), (0, .slice AL1_0 y1_0.length CL1_0), (1, .int .i64 x1_1), (6, .slice AL1_6 y1_6.length CL1_6)]) (I := fun x => Below w.heap.size w x ∧ Below wL1.heap.size wL1 x ∧ Below w1015.heap.size w1015 x) (ps := [VI 2]) (by kernel_rfl) ?_ ?_ rfl hS ⟨hBw1015_w, hBw1015_wL1, hBw1015_w1015⟩ ?_ ?_
   ·exact fun x y hI hb => ⟨below_step hI.1 hb, below_step hI.2.1 hb, below_step hI.2.2 hb⟩
   ·exact .v (.nil)
   ·refine .on rfl (fun a w hS hI hp => does_val (x_assign rfl (rfl)) rfl) ?_
    exact .nil
   clear hS
   intro at1016 w1017 hS hI hp
   have hBw1017_w := hI.1
   have hBw1017_wL1 := hI.2.1
   have hBw1017_w1015 := hI.2.2
   replace hS := ((((hS.nil).cons (hS.get 4 rfl)).cons (hS.get 3 rfl)).cons (hS.get 2 rfl)).cons (hS.get 1 rfl)
   have hv7 : sl _ 7 = .int .i64 2 := hp 0 (by decide)
   have hBw1017_w1017 := Below.refl w1017.heap.size w1017
   have hS := hS.cons hv7
   clear hp hI hv7
   refine hK1009 _ _ ?_
   (try clear hK1009 K1009)
   refine wp_seq_k (fun K1018 hK1018 => ?_)
   refine wp_seq_k (fun K1019 hK1019 => ?_)
   refine reg_seq (N := 81) (bs := [(7, .int .i64 2), (8, .int .i64 t1006_1), (0, .slice AL1_0 y1_0.length CL1_0), (1, .int .i64 x1_1), (6, .slice AL1_6 y1_6.length CL1_6)]) (I := fun x => Below w.heap.size w x ∧ Below wL1.heap.size wL1 x ∧ Below w1017.heap.size w1017 x) (ps := [VI 2, VB (!decide (2 = 0))]) (by kernel_rfl) ?_ ?_ rfl hS ⟨hBw1017_w, hBw1017_wL1, hBw1017_w1017⟩ ?_ ?_
   ·exact fun x y hI hb => ⟨below_step hI.1 hb, below_step hI.2.1 hb, below_step hI.2.2 hb⟩
   ·exact .v (.v (.nil))
   ·refine .ms 0 rfl rfl rfl ?_
    refine .on rfl (fun a w hS hI hp => does_val (x_bin rfl (hp.V 0 rfl rfl) (rfl) (b_neq _ _ _ _ _ _)) rfl) ?_
    exact .nil
   clear hS
   intro at1020 w1021 hS hI hp
   have hBw1021_w := hI.1
   have hBw1021_wL1 := hI.2.1
   have hBw1021_w1017 := hI.2.2
   have hv52 : sl _ 52 = .bool (!decide (2 = 0)) := hp 1 (by decide)
   have hBw1021_w1021 := Below.refl w1021.heap.size w1021
   have hS := hS.cons hv52
   clear hp hI hv52
   refine hK1019 _ _ ?_
   (try clear hK1019 K1019)
   refine wp_cond_true ((hS.get 0 rfl).trans (bT (congrArg (!·) (decide_eq_false c7)))) ?_
   refine wp_exit ?_
   (try simp only [Exit.then, Exit.inBlock, reduceIte])
   refine hK15 _ _ ?_
   (try clear hK15 K15)
   refine wp_seq_k (fun K1022 hK1022 => ?_)
   refine wp_seq_k (fun K1023 hK1023 => ?_)
   refine reg_seq (N := 81) (bs := [(52, .bool (!decide (2 = 0))), (7, .int .i64 2), (8, .int .i64 t1006_1), (0, .slice AL1_0 y1_0.length CL1_0), (1, .int .i64 x1_1), (6, .slice AL1_6 y1_6.length CL1_6)]) (I := fun x => Below w.heap.size w x ∧ Below wL1.heap.size wL1 x ∧ Below w1021.heap.size w1021 x) (ps := [VI 2, VB (!decide (2 = 0))]) (by kernel_rfl) ?_ ?_ rfl hS ⟨hBw1021_w, hBw1021_wL1, hBw1021_w1021⟩ ?_ ?_
   ·exact fun x y hI hb => ⟨below_step hI.1 hb, below_step hI.2.1 hb, below_step hI.2.2 hb⟩
   ·exact .v (.v (.nil))
   ·refine .ms 1 rfl rfl rfl ?_
    refine .on rfl (fun a w hS hI hp => does_val (x_bin rfl (hp.V 0 rfl rfl) (rfl) (b_neq _ _ _ _ _ _)) rfl) ?_
    exact .nil
   clear hS
   intro at1024 w1025 hS hI hp
   have hBw1025_w := hI.1
   have hBw1025_wL1 := hI.2.1
   have hBw1025_w1021 := hI.2.2
   replace hS := ((hS.nil).cons (hS.get 5 rfl)).cons (hS.get 1 rfl)
   have hv78 : sl _ 78 = .bool (!decide (2 = 0)) := hp 1 (by decide)
   have hBw1025_w1025 := Below.refl w1025.heap.size w1025
   have hS := hS.cons hv78
   clear hp hI hv78
   refine hK1023 _ _ ?_
   (try clear hK1023 K1023)
   refine wp_cond_true ((hS.get 0 rfl).trans (bT (congrArg (!·) (decide_eq_false c7)))) ?_
   refine wp_seq_k (fun K1026 hK1026 => ?_)
   refine reg_seq (N := 81) (bs := [(78, .bool (!decide (2 = 0))), (7, .int .i64 2), (6, .slice AL1_6 y1_6.length CL1_6)]) (I := fun x => Below w.heap.size w x ∧ Below wL1.heap.size wL1 x ∧ Below w1025.heap.size w1025 x) (ps := [VI 2, IsV (.slice none 0 0), VI 2]) (by kernel_rfl) ?_ ?_ rfl hS ⟨hBw1025_w, hBw1025_wL1, hBw1025_w1025⟩ ?_ ?_
   ·exact fun x y hI hb => ⟨below_step hI.1 hb, below_step hI.2.1 hb, below_step hI.2.2 hb⟩
   ·exact .v (.v (.v (.nil)))
   ·refine .ms 1 rfl rfl rfl ?_
    refine .on rfl (fun a w hS hI hp => does_val (x_assign rfl (rfl)) rfl) ?_
    refine .asg 0 rfl rfl rfl rfl ?_
    exact .nil
   clear hS
   intro at1027 w1028 hS hI hp
   have hBw1028_w := hI.1
   have hBw1028_wL1 := hI.2.1
   have hBw1028_w1025 := hI.2.2
   replace hS := hS.nil
   have hv4 : sl _ 4 = .slice none 0 0 := hp 1 (by decide)
   have hv5 : sl _ 5 = .int .i64 2 := hp 2 (by decide)
   have hBw1028_w1028 := Below.refl w1028.heap.size w1028
   have hS := hS.cons hv4
   have hS := hS.cons hv5
   clear hp hI hv4 hv5
   refine hK1026 _ _ ?_
   (try clear hK1026 K1026)
   refine wp_ret ?_
   (try simp only [Exit.then, Exit.inBlock, Exit.jump, Exit.noGoto])
   exact bodyPost_ret (v := .tuple #[.slice none 0 0, .int .i64 2]) (results_list (rs := [.tmp 4, .tmp 5]) rfl (by simp) (Vals.at (hS.get 1 rfl) (Vals.at (hS.get 0 rfl) .nil))) hS.nodef ⟨.slice none 0 0, rfl, Kd.R_nil _ _ _ _ _, hBw1028_w⟩
  rw [if_pos c7] at H
  obtain ⟨t1023, At1023, H⟩ := Option.bind_eq_some_iff.mp H
  obtain ⟨t1023_1, t1023_2⟩ := t1023
  (try dsimp only at H)
  by_cases c8 : 0 ≤ (wrap64 (x1_1 + 4))
  rotate_left
  ·rw [if_neg c8] at H
   exact absurd H (by simp)
  rw [if_pos c8] at H
  by_cases c9 : (wrap64 (x1_1 + 4)) ≤ (wrap64 ((wrap64 (x1_1 + 4)) + t1006_1))
  rotate_left
  ·rw [if_neg c9] at H
   exact absurd H (by simp)
  rw [if_pos c9] at H
  by_cases c10 : (wrap64 ((wrap64 (x1_1 + 4)) + t1006_1)) ≤ (y1_0.length : Int)
  rotate_left
  ·rw [if_neg c10] at H
   exact absurd H (by simp)
  rw [if_pos c10] at H
  by_cases c11 : (y1_6.length + [(⟨t1023_1, strOfNums ((y1_0.take (wrap64 ((wrap64 (x1_1 + 4)) + t1006_1) : Int).toNat).drop (wrap64 (x1_1 + 4) : Int).toNat)⟩ : S26)].length) * 24 ≤ 140737488355328
  rotate_left
  ·rw [if_neg c11] at H
   exact absurd H (by simp)
  rw [if_pos c11] at H
  have hBwL1_wL1 := Below.refl wL1.heap.size wL1
  refine wp_seq_k (fun K1001 hK1001 => ?_)
  refine wp_seq_k (fun K1002 hK1002 => ?_)
  refine reg_seq (N := 81) (bs := [(0, .slice AL1_0 y1_0.length CL1_0), (1, .int .i64 x1_1), (6, .slice AL1_6 y1_6.length CL1_6), (7, .int .i64 x1_7)]) (I := fun x => Below w.heap.size w x ∧ Below wL1.heap.size wL1 x) (ps := [VI x1_1, IsV (.slice AL1_0 y1_0.length CL1_0), VI (y1_0.length : Int), VB (decide (x1_1 < (y1_0.length : Int)))]) (by kernel_rfl) ?_ ?_ rfl hS ⟨hBwL1_w, hBwL1_wL1⟩ ?_ ?_
  ·exact fun x y hI hb => ⟨below_step hI.1 hb, below_step hI.2 hb⟩
  ·exact .v (.v (.v (.v (.nil))))
  ·refine .ms 1 rfl rfl rfl ?_
   refine .ms 0 rfl rfl rfl ?_
   refine .on rfl (fun a w hS hI hp => does_val (x_len (e := 5) rfl (by kernel_rfl) (hp.V 1 rfl rfl)) rfl) ?_
   refine .on rfl (fun a w hS hI hp => does_val (x_bin rfl (hp.V 0 rfl rfl) (hp.V 2 rfl rfl) (b_lss _ _ _ _ _ _)) rfl) ?_
   exact .nil
  clear hS
  intro at1003 w1004 hS hI hp
  have hBw1004_w := hI.1
  have hBw1004_wL1 := hI.2
  have hv23 : sl _ 23 = .bool (decide (x1_1 < (y1_0.length : Int))) := hp 3 (by decide)
  have hBw1004_w1004 := Below.refl w1004.heap.size w1004
  have hS := hS.cons hv23
  clear hp hI hv23
  refine hK1002 _ _ ?_
  (try clear hK1002 K1002)
  refine wp_cond_true ((hS.get 0 rfl).trans (bT (decide_eq_true c3))) ?_
  refine wp_skip ?_
  refine hK1001 _ _ ?_
  (try clear hK1001 K1001)
  refine wp_block ?_
  refine wp_seq_k (fun K1005 hK1005 => ?_)
  refine reg_seq (N := 81) (bs := [(23, .bool (decide (x1_1 < (y1_0.length : Int)))), (0, .slice AL1_0 y1_0.length CL1_0), (1, .int .i64 x1_1), (6, .slice AL1_6 y1_6.length CL1_6), (7, .int .i64 x1_7)]) (I := fun x => Below w.heap.size w x ∧ Below wL1.heap.size wL1 x ∧ Below w1004.heap.size w1004 x) (ps := [IsV (.slice AL1_0 y1_0.length CL1_0), VI x1_1, VI (wrap64 (x1_1 + 2)), IsV (.tuple #[.int .i64 t1006_1, .bool t1006_2]), IsV (.tuple #[.int .i64 t1006_1, .bool t1006_2]), VI t1006_1, VB t1006_2, VI t1006_1, VB t1006_2]) (by kernel_rfl) ?_ ?_ rfl hS ⟨hBw1004_w, hBw1004_wL1, hBw1004_w1004⟩ ?_ ?_
  ·exact fun x y hI hb => ⟨below_step hI.1 hb, below_step hI.2.1 hb, below_step hI.2.2 hb⟩
  ·exact .v (.v (.v (.v (.v (.v (.v (.v (.v (.nil)))))))))
  ·refine .ms 1 rfl rfl rfl ?_
   refine .ms 2 rfl rfl rfl ?_
   refine .on rfl (fun a w hS hI hp => does_val (x_bin rfl (hp.V 1 rfl rfl) (rfl) (b_add _ _ _ _ _)) rfl) ?_
   refine .on rfl (fun a w hS hI hp => does_call (by kernel_rfl) (ar3 (hp.V 0 rfl rfl) (hp.V 2 rfl rfl) (rfl)) ((octets_Get.calls k _ _ y1_0 (wrap64 (x1_1 + 2)) 2 t1006_1 t1006_2 _ (Kd.C_below hcL1_0 hI.1) hr1_0 At1006).mono fun _ _ h => ⟨_, h.1, h.2.below, rfl⟩)) ?_
   refine .mv 3 rfl rfl rfl rfl ?_
   iterate 2 refine .on rfl (fun a w hS hI hp => does_val (x_extract rfl (hp.V 4 rfl rfl) rfl) rfl) ?_
   refine .asg 5 rfl rfl rfl rfl ?_
   refine .asg 6 rfl rfl rfl rfl ?_
   exact .nil
  clear hS
  intro at1007 w1008 hS hI hp
  have hBw1008_w := hI.1
  have hBw1008_wL1 := hI.2.1
  have hBw1008_w1004 := hI.2.2
  replace hS := ((((hS.nil).cons (hS.get 4 rfl)).cons (hS.get 3 rfl)).cons (hS.get 2 rfl)).cons (hS.get 1 rfl)
  have hv8 : sl _ 8 = .int .i64 t1006_1 := hp 7 (by decide)
  have hv9 : sl _ 9 = .bool t1006_2 := hp 8 (by decide)
  have hBw1008_w1008 := Below.refl w1008.heap.size w1008
  have hS := hS.cons hv8
  have hS := hS.cons hv9
  clear hp hI hv8 hv9
  refine hK1005 _ _ ?_
  (try clear hK1005 K1005)
  refine wp_seq_k (fun K1009 hK1009 => ?_)
  refine wp_block ?_
  refine wp_seq_k (fun K1010 hK1010 => ?_)
  refine reg_seq (N := 81) (bs := [(9, .bool t1006_2), (8, .int .i64 t1006_1), (0, .slice AL1_0 y1_0.length CL1_0), (1, .int .i64 x1_1), (6, .slice AL1_6 y1_6.length CL1_6), (7, .int .i64 x1_7)]) (I := fun x => Below w.heap.size w x ∧ Below wL1.heap.size wL1 x ∧ Below w1008.heap.size w1008 x) (ps := [IsV (.slice AL1_6 y1_6.length CL1_6), VI (y1_6.length : Int), VB (decide ((y1_6.length : Int) = 8)), VB (decide ((y1_6.length : Int) = 8))]) (by kernel_rfl) ?_ ?_ rfl hS ⟨hBw1008_w, hBw1008_wL1, hBw1008_w1008⟩ ?_ ?_
  ·exact fun x y hI hb => ⟨below_step hI.1 hb, below_step hI.2.1 hb, below_step hI.2.2 hb⟩
  ·exact .v (.v (.v (.v (.nil))))
  ·refine .ms 4 rfl rfl rfl ?_
   refine .on rfl (fun a w hS hI hp => does_val (x_len (e := 26) rfl (by kernel_rfl) (hp.V 0 rfl rfl)) rfl) ?_
   refine .on rfl (fun a w hS hI hp => does_val (x_bin rfl (hp.V 1 rfl rfl) (rfl) (b_eql _ _ _ _ _ _)) rfl) ?_
   refine .asg 2 rfl rfl rfl rfl ?_
   exact .nil
  clear hS
  intro at1011 w1012 hS hI hp
  have hBw1012_w := hI.1
  have hBw1012_wL1 := hI.2.1
  have hBw1012_w1008 := hI.2.2
  have hv31 : sl _ 31 = .bool (decide ((y1_6.length : Int) = 8)) := hp 3 (by decide)
  have hBw1012_w1012 := Below.refl w1012.heap.size w1012
  have hS := hS.cons hv31
  clear hp hI hv31
  refine hK1010 _ _ ?_
  (try clear hK1010 K1010)
  refine wp_cond_false ((hS.get 0 rfl).trans (bF (decide_eq_false c4))) ?_
  refine wp_seq_k (fun K1013 hK1013 => ?_)
  refine reg_seq (N := 81) (bs := [(31, .bool (decide ((y1_6.length : Int) = 8))), (9, .bool t1006_2), (8, .int .i64 t1006_1), (0, .slice AL1_0 y1_0.length CL1_0), (1, .int .i64 x1_1), (6, .slice AL1_6 y1_6.length CL1_6), (7, .int .i64 x1_7)]) (I := fun x => Below w.heap.size w x ∧ Below wL1.heap.size wL1 x ∧ Below w1012.heap.size w1012 x) (ps := [VB t1006_2, VB (!t1006_2), VB (!t1006_2), VI t1006_1, IsV (.slice AL1_0 y1_0.length CL1_0), VI (y1_0.length : Int), VI x1_1, VI (wrap64 ((y1_0.length : Int) - x1_1)), VI (wrap64 ((wrap64 ((y1_0.length : Int) - x1_1)) - 4)), VB (decide (t1006_1 > (wrap64 ((wrap64 ((y1_0.length : Int) - x1_1)) - 4)))), VB (decide (t1006_1 > (wrap64 ((wrap64 ((y1_0.length : Int) - x1_1)) - 4)))), VB (decide (t1006_1 > (wrap64 ((wrap64 ((y1_0.length : Int) - x1_1)) - 4))))]) (by kernel_rfl) ?_ ?_ rfl hS ⟨hBw1012_w, hBw1012_wL1, hBw1012_w1012⟩ ?_ ?_
  ·exact fun x y hI hb => ⟨below_step hI.1 hb, below_step hI.2.1 hb, below_step hI.2.2 hb⟩
  ·exact .v (.v (.v (.v (.v (.v (.v (.v (.v (.v (.v (.v (.nil))))))))))))
  ·refine .ms 1 rfl rfl rfl ?_
   refine .on rfl (fun a w hS hI hp => does_val (x_not rfl (hp.V 0 rfl rfl)) rfl) ?_
   refine .mv 1 rfl rfl rfl rfl ?_
   refine .oy 2 38 rfl rfl rfl rfl rfl ((congrArg (!·) c5)) (fun a w hS hI hp => does_val (x_move rfl (hS.get 2 rfl)) rfl) ?_
   refine .oy 2 38 rfl rfl rfl rfl rfl ((congrArg (!·) c5)) (fun a w hS hI hp => does_val (x_move rfl (hS.get 3 rfl)) rfl) ?_
   refine .oy 2 38 rfl rfl rfl rfl rfl ((congrArg (!·) c5)) (fun a w hS hI hp => does_val (x_len (e := 5) rfl (by kernel_rfl) (hp.V 4 rfl rfl)) rfl) ?_
   refine .oy 2 38 rfl rfl rfl rfl rfl ((congrArg (!·) c5)) (fun a w hS hI hp => does_val (x_move rfl (hS.get 4 rfl)) rfl) ?_
   refine .oy 2 38 rfl rfl rfl rfl rfl ((congrArg (!·) c5)) (fun a w hS hI hp => does_val (x_bin rfl (hp.V 5 rfl rfl) (hp.V 6 rfl rfl) (b_sub _ _ _ _ _)) rfl) ?_
   refine .oy 2 38 rfl rfl rfl rfl rfl ((congrArg (!·) c5)) (fun a w hS hI hp => does_val (x_bin rfl (hp.V 7 rfl rfl) (rfl) (b_sub _ _ _ _ _)) rfl) ?_
   refine .oy 2 38 rfl rfl rfl rfl rfl ((congrArg (!·) c5)) (fun a w hS hI hp => does_val (x_bin rfl (hp.V 3 rfl rfl) (hp.V 8 rfl rfl) (b_gtr _ _ _ _ _ _)) rfl) ?_
   refine .on rfl (fun a w hS hI hp => does_val (x_pickF rfl ((hp.V 2 rfl rfl).trans (bF (congrArg (!·) c5))) (hp.V 9 rfl rfl)) rfl) ?_
   refine .asg 10 rfl rfl rfl rfl ?_
   exact .nil
  clear hS
  intro at1014 w1015 hS hI hp
  have hBw1015_w := hI.1
  have hBw1015_wL1 := hI.2.1
  have hBw1015_w1012 := hI.2.2
  replace hS := (((((hS.nil).cons (hS.get 6 rfl)).cons (hS.get 5 rfl)).cons (hS.get 4 rfl)).cons (hS.get 3 rfl)).cons (hS.get 2 rfl)
  have hv35 : sl _ 35 = .bool (decide (t1006_1 > (wrap64 ((wrap64 ((y1_0.length : Int) - x1_1)) - 4)))) := hp 11 (by decide)
  have hBw1015_w1015 := Below.refl w1015.heap.size w1015
  have hS := hS.cons hv35
  clear hp hI hv35
  refine hK1013 _ _ ?_
  (try clear hK1013 K1013)
  refine wp_cond_true ((hS.get 0 rfl).trans (bT (decide_eq_true c6))) ?_
  replace hS := (((((hS.nil).cons (hS.get 4 rfl)).cons (hS.get 3 rfl)).cons (hS.get 2 rfl)).cons (hS.get 1 rfl)).cons (hS.get 0 rfl)
  refine reg_seq (N := 81) (bs := [(35, .bool (decide (t1006_1 > (wrap64 ((wrap64 ((y1_0.length : Int) - x1_1)) - 4))))), (8, .int .i64 t1006_1), (0, .slice AL1_0 y1_0.length CL1_0), (1, .int .i64 x1_1), (6, .slice AL1_6 y1_6.length CL1_6)]) (I := fun x => Below w.heap.size w x ∧ Below wL1.heap.size wL1 x ∧ Below w1015.heap.size w1015 x) (ps := [VI 2]) (by kernel_rfl) ?_ ?_ rfl hS ⟨hBw1015_w, hBw1015_wL1, hBw1015_w1015⟩ ?_ ?_
  ·exact fun x y hI hb => ⟨below_step hI.1 hb, below_step hI.2.1 hb, below_step hI.2.2 hb⟩
  ·exact .v (.nil)
  ·refine .on rfl (fun a w hS hI hp => does_val (x_assign rfl (rfl)) rfl) ?_
   exact .nil
  clear hS
  intro at1016 w1017 hS hI hp
  have hBw1017_w := hI.1
  have hBw1017_wL1 := hI.2.1
  have hBw1017_w1015 := hI.2.2
  replace hS := ((((hS.nil).cons (hS.get 4 rfl)).cons (hS.get 3 rfl)).cons (hS.get 2 rfl)).cons (hS.get 1 rfl)
  have hv7 : sl _ 7 = .int .i64 2 := hp 0 (by decide)
  have hBw1017_w1017 := Below.refl w1017.heap.size w1017
  have hS := hS.cons hv7
  clear hp hI hv7
  refine hK1009 _ _ ?_
  (try clear hK1009 K1009)
  refine wp_seq_k (fun K1018 hK1018 => ?_)
  refine wp_seq_k (fun K1019 hK1019 => ?_)
  refine reg_seq (N := 81) (bs := [(7, .int .i64 2), (8, .int .i64 t1006_1), (0, .slice AL1_0 y1_0.length CL1_0), (1, .int .i64 x1_1), (6, .slice AL1_6 y1_6.length CL1_6)]) (I := fun x => Below w.heap.size w x ∧ Below wL1.heap.size wL1 x ∧ Below w1017.heap.size w1017 x) (ps := [VI 2, VB (!decide (2 = 0))]) (by kernel_rfl) ?_ ?_ rfl hS ⟨hBw1017_w, hBw1017_wL1, hBw1017_w1017⟩ ?_ ?_
  ·exact fun x y hI hb => ⟨below_step hI.1 hb, below_step hI.2.1 hb, below_step hI.2.2 hb⟩
  ·exact .v (.v (.nil))
  ·refine .ms 0 rfl rfl rfl ?_
   refine .on rfl (fun a w hS hI hp => does_val (x_bin rfl (hp.V 0 rfl rfl) (rfl) (b_neq _ _ _ _ _ _)) rfl) ?_
   exact .nil
  clear hS
  intro at1020 w1021 hS hI hp
  have hBw1021_w := hI.1
  have hBw1021_wL1 := hI.2.1
  have hBw1021_w1017 := hI.2.2
  have hv52 : sl _ 52 = .bool (!decide (2 = 0)) := hp 1 (by decide)
  have hBw1021_w1021 := Below.refl w1021.heap.size w1021
  have hS := hS.cons hv52
  clear hp hI hv52
  refine hK1019 _ _ ?_
  (try clear hK1019 K1019)
  refine wp_cond_false ((hS.get 0 rfl).trans (bF (congrArg (!·) (decide_eq_true c7)))) ?_
  refine wp_skip ?_
  refine hK1018 _ _ ?_
  (try clear hK1018 K1018)
  refine wp_seq_k (fun K1022 hK1022 => ?_)
  refine reg_seq (N := 81) (bs := [(52, .bool (!decide (2 = 0))), (7, .int .i64 2), (8, .int .i64 t1006_1), (0, .slice AL1_0 y1_0.length CL1_0), (1, .int .i64 x1_1), (6, .slice AL1_6 y1_6.length CL1_6)]) (I := fun x => Below w.heap.size w x ∧ Below wL1.heap.size wL1 x ∧ Below w1021.heap.size w1021 x) (ps := [IsV (.slice AL1_0 y1_0.length CL1_0), VI x1_1, IsV (.tuple #[.int .i64 t1023_1, .bool t1023_2]), IsV (.tuple #[.int .i64 t1023_1, .bool t1023_2]), VI t1023_1, VB t1023_2, VI t1023_1, VB t1023_2]) (by kernel_rfl) ?_ ?_ rfl hS ⟨hBw1021_w, hBw1021_wL1, hBw1021_w1021⟩ ?_ ?_
  ·exact fun x y hI hb => ⟨below_step hI.1 hb, below_step hI.2.1 hb, below_step hI.2.2 hb⟩
  ·exact .v (.v (.v (.v (.v (.v (.v (.v (.nil))))))))
  ·refine .ms 3 rfl rfl rfl ?_
   refine .ms 4 rfl rfl rfl ?_
   refine .on rfl (fun a w hS hI hp => does_call (by kernel_rfl) (ar3 (hp.V 0 rfl rfl) (hp.V 1 rfl rfl) (rfl)) ((octets_Get.calls k _ _ y1_0 x1_1 2 t1023_1 t1023_2 _ (Kd.C_below hcL1_0 hI.1) hr1_0 At1023).mono fun _ _ h => ⟨_, h.1, h.2.below, rfl⟩)) ?_
   refine .mv 2 rfl rfl rfl rfl ?_
   iterate 2 refine .on rfl (fun a w hS hI hp => does_val (x_extract rfl (hp.V 3 rfl rfl) rfl) rfl) ?_
   refine .asg 4 rfl rfl rfl rfl ?_
   refine .asg 5 rfl rfl rfl rfl ?_
   exact .nil
  clear hS
  intro at1024 w1025 hS hI hp
  have hBw1025_w := hI.1
  have hBw1025_wL1 := hI.2.1
  have hBw1025_w1021 := hI.2.2
  replace hS := (((((hS.nil).cons (hS.get 5 rfl)).cons (hS.get 4 rfl)).cons (hS.get 3 rfl)).cons (hS.get 2 rfl)).cons (hS.get 1 rfl)
  have hv10 : sl _ 10 = .int .i64 t1023_1 := hp 6 (by decide)
  have hBw1025_w1025 := Below.refl w1025.heap.size w1025
  have hS := hS.cons hv10
  clear hp hI hv10
  refine hK1022 _ _ ?_
  (try clear hK1022 K1022)
  refine wp_seq_k (fun K1026 hK1026 => ?_)
  refine reg_seq_tail 13 (N := 81) (bs := [(10, .int .i64 t1023_1), (7, .int .i64 2), (8, .int .i64 t1006_1), (0, .slice AL1_0 y1_0.length CL1_0), (1, .int .i64 x1_1), (6, .slice AL1_6 y1_6.length CL1_6)]) (I := fun x => Below w.heap.size w x ∧ Below wL1.heap.size wL1 x ∧ Below w1025.heap.size w1025 x) (ps := [IsV (.slice AL1_6 y1_6.length CL1_6), VI t1023_1, IsV (.slice AL1_0 y1_0.length CL1_0), VI x1_1, VI (wrap64 (x1_1 + 4)), VI x1_1, VI (wrap64 (x1_1 + 4)), VI t1006_1, VI (wrap64 ((wrap64 (x1_1 + 4)) + t1006_1)), IsC (Kd.int .u8) ((y1_0.take (wrap64 ((wrap64 (x1_1 + 4)) + t1006_1) : Int).toNat).drop (wrap64 (x1_1 + 4) : Int).toNat), IsV (.string (strOfNums ((y1_0.take (wrap64 ((wrap64 (x1_1 + 4)) + t1006_1) : Int).toNat).drop (wrap64 (x1_1 + 4) : Int).toNat))), IsV (.agg #[.int .i64 t1023_1, .string (strOfNums ((y1_0.take (wrap64 ((wrap64 (x1_1 + 4)) + t1006_1) : Int).toNat).drop (wrap64 (x1_1 + 4) : Int).toNat))]), IsR k26 26 w1025.heap.size [(⟨t1023_1, strOfNums ((y1_0.take (wrap64 ((wrap64 (x1_1 + 4)) + t1006_1) : Int).toNat).drop (wrap64 (x1_1 + 4) : Int).toNat)⟩ : S26)]]) (by kernel_rfl) ?_ ?_ rfl hS ⟨hBw1025_w, hBw1025_wL1, hBw1025_w1025⟩ ?_ ?_
  ·exact fun x y hI hb => ⟨below_step hI.1 hb, below_step hI.2.1 hb, below_step hI.2.2 hb⟩
  ·exact .v (.v (.v (.v (.v (.v (.v (.v (.v (.cons (Stays.c _ _) (.v (.v (.cons (Stays.r _ _ _ _) (.nil)))))))))))))
  ·refine .ms 5 rfl rfl rfl ?_
   refine .ms 0 rfl rfl rfl ?_
   refine .ms 3 rfl rfl rfl ?_
   refine .ms 4 rfl rfl rfl ?_
   refine .on rfl (fun a w hS hI hp => does_val (x_bin rfl (hp.V 3 rfl rfl) (rfl) (b_add _ _ _ _ _)) rfl) ?_
   refine .ms 4 rfl rfl rfl ?_
   refine .on rfl (fun a w hS hI hp => does_val (x_bin rfl (hp.V 5 rfl rfl) (rfl) (b_add _ _ _ _ _)) rfl) ?_
   refine .ms 2 rfl rfl rfl ?_
   refine .on rfl (fun a w hS hI hp => does_val (x_bin rfl (hp.V 6 rfl rfl) (hp.V 7 rfl rfl) (b_add _ _ _ _ _)) rfl) ?_
   refine .on rfl (fun a w hS hI hp => does_cut (i := wrap64 (x1_1 + 4)) (j := wrap64 ((wrap64 (x1_1 + 4)) + t1006_1)) rfl (e := 5) (by kernel_rfl) (by kernel_rfl) (hp.V 2 rfl rfl) (.inr ⟨_, rfl, (hp.V 4 rfl rfl)⟩) (.inr ⟨_, rfl, (hp.V 8 rfl rfl)⟩) c8 c9 c10 hr1_0 ((Kd.C_below hcL1_0 hI.1))) ?_
   refine .on rfl (fun a w hS hI hp => (hp.V 9 rfl rfl).elim fun A_ h_ => h_.elim fun c_ h_ => h_.elim fun hv_ h_ => h_.elim fun hl_ hc_ => does_val (x_conv rfl hv_ (Kd.C_string (by kernel_rfl) (e := 5) (by kernel_rfl) (by kernel_rfl) hc_)) rfl) ?_
   refine .on rfl (fun a w hS hI hp => does_val (x_build (vs := [(0, .int .i64 t1023_1), (1, .string (strOfNums ((y1_0.take (wrap64 ((wrap64 (x1_1 + 4)) + t1006_1) : Int).toNat).drop (wrap64 (x1_1 + 4) : Int).toNat)))]) rfl (by rw [Array.toList_map]; exact (show [(0, a.eval (.tmp 60)), (1, a.eval (.tmp 69))] = _ from (li_cons (hp.V 1 rfl rfl) (li_cons (hp.V 10 rfl rfl) rfl)))) (by kernel_rfl)) rfl) ?_
   refine .on rfl (fun a w hS hI hp => does_litT tlv_Get.flat26 w1025.heap.size 22 26 _ [(0, .agg #[.int .i64 t1023_1, .string (strOfNums ((y1_0.take (wrap64 ((wrap64 (x1_1 + 4)) + t1006_1) : Int).toNat).drop (wrap64 (x1_1 + 4) : Int).toNat))])] (⟨t1023_1, strOfNums ((y1_0.take (wrap64 ((wrap64 (x1_1 + 4)) + t1006_1) : Int).toNat).drop (wrap64 (x1_1 + 4) : Int).toNat)⟩ : S26) rfl (by kernel_rfl) (by rw [Array.toList_map]; exact (show [(0, a.eval (.tmp 70))] = _ from (li_cons (hp.V 11 rfl rfl) rfl))) (by kernel_rfl) (hI.2.2).size) ?_
   exact .nil
  clear hS
  intro at1027 w1028 hS hI hp
  have hBw1028_w := hI.1
  have hBw1028_wL1 := hI.2.1
  have hBw1028_w1025 := hI.2.2
  replace hS := (((((hS.nil).cons (hS.get 5 rfl)).cons (hS.get 4 rfl)).cons (hS.get 3 rfl)).cons (hS.get 2 rfl)).cons (hS.get 1 rfl)
  have hv59 : sl _ 59 = .slice AL1_6 y1_6.length CL1_6 := hp 0 (by decide)
  obtain ⟨A1029, C1029, hv71, hl1029, hc1029⟩ := Kd.R_reads (show Kd.R k26 26 w1028 w1025.heap.size (fun _ => True) (sl _ 71) [(⟨t1023_1, strOfNums ((y1_0.take (wrap64 ((wrap64 (x1_1 + 4)) + t1006_1) : Int).toNat).drop (wrap64 (x1_1 + 4) : Int).toNat)⟩ : S26)] from hp 12 (by decide))
  have ho1029 : Kd.R k26 26 w1028 w1025.heap.size (fun _ => True) (.slice A1029 [(⟨t1023_1, strOfNums ((y1_0.take (wrap64 ((wrap64 (x1_1 + 4)) + t1006_1) : Int).toNat).drop (wrap64 (x1_1 + 4) : Int).toNat)⟩ : S26)].length C1029) [(⟨t1023_1, strOfNums ((y1_0.take (wrap64 ((wrap64 (x1_1 + 4)) + t1006_1) : Int).toNat).drop (wrap64 (x1_1 + 4) : Int).toNat)⟩ : S26)] := hv71 ▸ (hp 12 (by decide))
  have hBw1028_w1028 := Below.refl w1028.heap.size w1028
  have hS := hS.cons hv59
  have hS := hS.cons hv71
  clear hp hI hv59 hv71
  show wpList _ _ _ [_, _] _ _
  refine list_step rfl (does_moreT tlv_Get.flat26 (W := w) (.tmp 59) (.tmp 71) 22 26 (.agg #[(.int .i64 0), (.string ⟨#[]⟩)]) 24 rfl (by kernel_rfl) (by kernel_rfl) rfl (by decide) (by decide) _ y1_6 [(⟨t1023_1, strOfNums ((y1_0.take (wrap64 ((wrap64 (x1_1 + 4)) + t1006_1) : Int).toNat).drop (wrap64 (x1_1 + 4) : Int).toNat)⟩ : S26)] _ _ _ (hS.get 1 rfl) (hS.get 0 rfl) (Kd.R_below hoL1_6 hBw1028_wL1) (Kd.C_below hc1029 hBw1028_w1028) hBw1028_w c11) ?_
  rintro vw1030 w1030 ⟨hb, hr, hk⟩
  clear hk
  have hBw1030_w := hb
  replace hS := ((((hS.nil).cons (hS.get 5 rfl)).cons (hS.get 4 rfl)).cons (hS.get 3 rfl)).cons (hS.get 2 rfl)
  have hBw1030_w1030 := Below.refl w1030.heap.size w1030
  obtain ⟨A1031, C1031, rfl, hl1031, hc1031⟩ := Kd.R_reads hr
  have hr1031 := hr
  clear hr
  refine hS.next (v := .slice A1031 ((y1_6 ++ [(⟨t1023_1, strOfNums ((y1_0.take (wrap64 ((wrap64 (x1_1 + 4)) + t1006_1) : Int).toNat).drop (wrap64 (x1_1 + 4) : Int).toNat)⟩ : S26)] : List S26).length) C1031) (d := 72) rfl (by decide) (by rfl) ?_
  clear hS
  intro at1032 hS
  refine list_step rfl (R := fun v w' => Below _ _ w' ∧ (IsV (.slice A1031 ((y1_6 ++ [(⟨t1023_1, strOfNums ((y1_0.take (wrap64 ((wrap64 (x1_1 + 4)) + t1006_1) : Int).toNat).drop (wrap64 (x1_1 + 4) : Int).toNat)⟩ : S26)] : List S26).length) C1031)) v w') (does_val (x_assign rfl (hS.get 0 rfl)) rfl) ?_
  rintro vw1033 w1033 ⟨hb, he⟩
  have hBw1033_w := below_step hBw1030_w hb
  have hBw1033_w1030 := below_step hBw1030_w1030 hb
  have hBw1033_w1033 := Below.refl w1033.heap.size w1033
  obtain rfl : vw1033 = .slice A1031 ((y1_6 ++ [(⟨t1023_1, strOfNums ((y1_0.take (wrap64 ((wrap64 (x1_1 + 4)) + t1006_1) : Int).toNat).drop (wrap64 (x1_1 + 4) : Int).toNat)⟩ : S26)] : List S26).length) C1031 := he
  refine hS.next (v := .slice A1031 ((y1_6 ++ [(⟨t1023_1, strOfNums ((y1_0.take (wrap64 ((wrap64 (x1_1 + 4)) + t1006_1) : Int).toNat).drop (wrap64 (x1_1 + 4) : Int).toNat)⟩ : S26)] : List S26).length) C1031) (d := 6) rfl (by decide) (by rfl) ?_
  clear hS
  intro at1034 hS
  refine wpList_nil ?_
  refine hK1026 _ _ ?_
  (try clear hK1026 K1026)
  refine reg_seq_tail 4 (N := 81) (bs := [(6, .slice A1031 ((y1_6 ++ [(⟨t1023_1, strOfNums ((y1_0.take (wrap64 ((wrap64 (x1_1 + 4)) + t1006_1) : Int).toNat).drop (wrap64 (x1_1 + 4) : Int).toNat)⟩ : S26)] : List S26).length) C1031), (72, .slice A1031 ((y1_6 ++ [(⟨t1023_1, strOfNums ((y1_0.take (wrap64 ((wrap64 (x1_1 + 4)) + t1006_1) : Int).toNat).drop (wrap64 (x1_1 + 4) : Int).toNat)⟩ : S26)] : List S26).length) C1031), (7, .int .i64 2), (8, .int .i64 t1006_1), (0, .slice AL1_0 y1_0.length CL1_0), (1, .int .i64 x1_1)]) (I := fun x => Below w.heap.size w x ∧ Below w1030.heap.size w1030 x ∧ Below w1033.heap.size w1033 x) (ps := [VI x1_1, VI t1006_1, VI (wrap64 (4 + t1006_1)), VI (wrap64 (x1_1 + (wrap64 (4 + t1006_1))))]) (by kernel_rfl) ?_ ?_ rfl hS ⟨hBw1033_w, hBw1033_w1030, hBw1033_w1033⟩ ?_ ?_
  ·exact fun x y hI hb => ⟨below_step hI.1 hb, below_step hI.2.1 hb, below_step hI.2.2 hb⟩
  ·exact .v (.v (.v (.v (.nil))))
  ·refine .ms 5 rfl rfl rfl ?_
   refine .ms 3 rfl rfl rfl ?_
   refine .on rfl (fun a w hS hI hp => does_val (x_bin rfl (rfl) (hp.V 1 rfl rfl) (b_add _ _ _ _ _)) rfl) ?_
   refine .on rfl (fun a w hS hI hp => does_val (x_bin rfl (hp.V 0 rfl rfl) (hp.V 2 rfl rfl) (b_add _ _ _ _ _)) rfl) ?_
   exact .nil
  clear hS
  intro at1035 w1036 hS hI hp
  have hBw1036_w := hI.1
  have hBw1036_w1030 := hI.2.1
  have hBw1036_w1033 := hI.2.2
  replace hS := ((((hS.nil).cons (hS.get 5 rfl)).cons (hS.get 4 rfl)).cons (hS.get 2 rfl)).cons (hS.get 0 rfl)
  have hv76 : sl _ 76 = .int .i64 (wrap64 (x1_1 + (wrap64 (4 + t1006_1)))) := hp 3 (by decide)
  have hBw1036_w1036 := Below.refl w1036.heap.size w1036
  have hS := hS.cons hv76
  clear hp hI hv76
  show wpList _ _ _ [_] _ _
  refine list_step rfl (R := fun v w' => Below _ _ w' ∧ (VI (wrap64 (x1_1 + (wrap64 (4 + t1006_1))))) v w') (does_val (x_assign rfl (hS.get 0 rfl)) rfl) ?_
  rintro vw1037 w1037 ⟨hb, he⟩
  have hBw1037_w := below_step hBw1036_w hb
  have hBw1037_w1030 := below_step hBw1036_w1030 hb
  have hBw1037_w1036 := below_step hBw1036_w1036 hb
  have hBw1037_w1037 := Below.refl w1037.heap.size w1037
  obtain rfl : vw1037 = .int .i64 (wrap64 (x1_1 + (wrap64 (4 + t1006_1)))) := he
  replace hS := ((((hS.nil).cons (hS.get 3 rfl)).cons (hS.get 2 rfl)).cons (hS.get 1 rfl)).cons (hS.get 0 rfl)
  refine hS.next (v := .int .i64 (wrap64 (x1_1 + (wrap64 (4 + t1006_1))))) (d := 1) rfl (by decide) (by rfl) ?_
  clear hS
  intro at1038 hS
  refine wpList_nil ?_
  replace hS := ((((hS.nil).cons (hS.get 3 rfl)).cons (hS.get 2 rfl)).cons (hS.get 0 rfl)).cons (hS.get 4 rfl)
  (try simp only [Exit.then, Exit.inBlock])
  exact ⟨n1, Nat.lt_succ_self _, y1_0, AL1_0, CL1_0, wrap64 (x1_1 + (wrap64 (4 + t1006_1))), (y1_6 ++ [(⟨t1023_1, strOfNums ((y1_0.take (wrap64 ((wrap64 (x1_1 + 4)) + t1006_1) : Int).toNat).drop (wrap64 (x1_1 + 4) : Int).toNat)⟩ : S26)] : List S26), A1031, C1031, 2, H, hS, hBw1037_w, hr1_0, (hcL1_0), hl1031, (Kd.R_lower (Kd.R_below hr1031 hBw1037_w1030) (Nat.le_refl _))⟩
 rw [if_neg c6] at H
 by_cases c7 : (Int.tmod t1006_1 2) = 0
 ·rw [if_pos c7] at H
  by_cases c8 : x1_7 = 0
  rotate_left
  ·rw [if_neg c8] at H
   simp only [Option.some.injEq, Prod.mk.injEq] at H
   obtain ⟨rfl, rfl⟩ := H
   have hBwL1_wL1 := Below.refl wL1.heap.size wL1
   refine wp_seq_k (fun K1001 hK1001 => ?_)
   refine wp_seq_k (fun K1002 hK1002 => ?_)
   refine reg_seq (N := 81) (bs := [(0, .slice AL1_0 y1_0.length CL1_0), (1, .int .i64 x1_1), (6, .slice AL1_6 y1_6.length CL1_6), (7, .int .i64 x1_7)]) (I := fun x => Below w.heap.size w x ∧ Below wL1.heap.size wL1 x) (ps := [VI x1_1, IsV (.slice AL1_0 y1_0.length CL1_0), VI (y1_0.length : Int), VB (decide (x1_1 < (y1_0.length : Int)))]) (by kernel_rfl) ?_ ?_ rfl hS ⟨hBwL1_w, hBwL1_wL1⟩ ?_ ?_
   ·exact fun x y hI hb => ⟨below_step hI.1 hb, below_step hI.2 hb⟩
   ·exact .v (.v (.v (.v (.nil))))
   ·refine .ms 1 rfl rfl rfl ?_
    refine .ms 0 rfl rfl rfl ?_
    refine .on rfl (fun a w hS hI hp => does_val (x_len (e := 5) rfl (by kernel_rfl) (hp.V 1 rfl rfl)) rfl) ?_
    refine .on rfl (fun a w hS hI hp => does_val (x_bin rfl (hp.V 0 rfl rfl) (hp.V 2 rfl rfl) (b_lss _ _ _ _ _ _)) rfl) ?_
    exact .nil
   clear hS
   intro at1003 w1004 hS hI hp
   have hBw1004_w := hI.1
   have hBw1004_wL1 := hI.2
   have hv23 : sl _ 23 = .bool (decide (x1_1 < (y1_0.length : Int))) := hp 3 (by decide)
   have hBw1004_w1004 := Below.refl w1004.heap.size w1004
   have hS := hS.cons hv23
   clear hp hI hv23
   refine hK1002 _ _ ?_
   (try clear hK1002 K1002)
   refine wp_cond_true ((hS.get 0 rfl).trans (bT (decide_eq_true c3))) ?_
   refine wp_skip ?_
   refine hK1001 _ _ ?_
   (try clear hK1001 K1001)
   refine wp_block ?_
   refine wp_seq_k (fun K1005 hK1005 => ?_)
   refine reg_seq (N := 81) (bs := [(23, .bool (decide (x1_1 < (y1_0.length : Int)))), (0, .slice AL1_0 y1_0.length CL1_0), (1, .int .i64 x1_1), (6, .slice AL1_6 y1_6.length CL1_6), (7, .int .i64 x1_7)]) (I := fun x => Below w.heap.size w x ∧ Below wL1.heap.size wL1 x ∧ Below w1004.heap.size w1004 x) (ps := [IsV (.slice AL1_0 y1_0.length CL1_0), VI x1_1, VI (wrap64 (x1_1 + 2)), IsV (.tuple #[.int .i64 t1006_1, .bool t1006_2]), IsV (.tuple #[.int .i64 t1006_1, .bool t1006_2]), VI t1006_1, VB t1006_2, VI t1006_1, VB t1006_2]) (by kernel_rfl) ?_ ?_ rfl hS ⟨hBw1004_w, hBw1004_wL1, hBw1004_w1004⟩ ?_ ?_
   ·exact fun x y hI hb => ⟨below_step hI.1 hb, below_step hI.2.1 hb, below_step hI.2.2 hb⟩
   ·exact .v (.v (.v (.v (.v (.v (.v (.v (.v (.nil)))))))))
   ·refine .ms 1 rfl rfl rfl ?_
    refine .ms 2 rfl rfl rfl ?_
    refine .on rfl (fun a w hS hI hp => does_val (x_bin rfl (hp.V 1 rfl rfl) (rfl) (b_add _ _ _ _ _)) rfl) ?_
    refine .on rfl (fun a w hS hI hp => does_call (by kernel_rfl) (ar3 (hp.V 0 rfl rfl) (hp.V 2 rfl rfl) (rfl)) ((octets_Get.calls k _ _ y1_0 (wrap64 (x1_1 + 2)) 2 t1006_1 t1006_2 _ (Kd.C_below hcL1_0 hI.1) hr1_0 At1006).mono fun _ _ h => ⟨_, h.1, h.2.below, rfl⟩)) ?_
    refine .mv 3 rfl rfl rfl rfl ?_
    iterate 2 refine .on rfl (fun a w hS hI hp => does_val (x_extract rfl (hp.V 4 rfl rfl) rfl) rfl) ?_
    refine .asg 5 rfl rfl rfl rfl ?_
    refine .asg 6 rfl rfl rfl rfl ?_
    exact .nil
   clear hS
   intro at1007 w1008 hS hI hp
   have hBw1008_w := hI.1
   have hBw1008_wL1 := hI.2.1
   have hBw1008_w1004 := hI.2.2
   replace hS := ((((hS.nil).cons (hS.get 4 rfl)).cons (hS.get 3 rfl)).cons (hS.get 2 rfl)).cons (hS.get 1 rfl)
   have hv8 : sl _ 8 = .int .i64 t1006_1 := hp 7 (by decide)
   have hv9 : sl _ 9 = .bool t1006_2 := hp 8 (by decide)
   have hBw1008_w1008 := Below.refl w1008.heap.size w1008
   have hS := hS.cons hv8
   have hS := hS.cons hv9
   clear hp hI hv8 hv9
   refine hK1005 _ _ ?_
   (try clear hK1005 K1005)
   refine wp_seq_k (fun K1009 hK1009 => ?_)
   refine wp_block ?_
   refine wp_seq_k (fun K1010 hK1010 => ?_)
   refine reg_seq (N := 81) (bs := [(9, .bool t1006_2), (8, .int .i64 t1006_1), (0, .slice AL1_0 y1_0.length CL1_0), (1, .int .i64 x1_1), (6, .slice AL1_6 y1_6.length CL1_6), (7, .int .i64 x1_7)]) (I := fun x => Below w.heap.size w x ∧ Below wL1.heap.size wL1 x ∧ Below w1008.heap.size w1008 x) (ps := [IsV (.slice AL1_6 y1_6.length CL1_6), VI (y1_6.length : Int), VB (decide ((y1_6.length : Int) = 8)), VB (decide ((y1_6.length : Int) = 8))]) (by kernel_rfl) ?_ ?_ rfl hS ⟨hBw1008_w, hBw1008_wL1, hBw1008_w1008⟩ ?_ ?_
   ·exact fun x y hI hb => ⟨below_step hI.1 hb, below_step hI.2.1 hb, below_step hI.2.2 hb⟩
   ·exact .v (.v (.v (.v (.nil))))
   ·refine .ms 4 rfl rfl rfl ?_
    refine .on rfl (fun a w hS hI hp => does_val (x_len (e := 26) rfl (by kernel_rfl) (hp.V 0 rfl rfl)) rfl) ?_
    refine .on rfl (fun a w hS hI hp => does_val (x_bin rfl (hp.V 1 rfl rfl) (rfl) (b_eql _ _ _ _ _ _)) rfl) ?_
    refine .asg 2 rfl rfl rfl rfl ?_
    exact .nil
   clear hS
   intro at1011 w1012 hS hI hp
   have hBw1012_w := hI.1
   have hBw1012_wL1 := hI.2.1
   have hBw1012_w1008 := hI.2.2
   have hv31 : sl _ 31 = .bool (decide ((y1_6.length : Int) = 8)) := hp 3 (by decide)
   have hBw1012_w1012 := Below.refl w1012.heap.size w1012
   have hS := hS.cons hv31
   clear hp hI hv31
   refine hK1010 _ _ ?_
   (try clear hK1010 K1010)
   refine wp_cond_false ((hS.get 0 rfl).trans (bF (decide_eq_false c4))) ?_
   refine wp_seq_k (fun K1013 hK1013 => ?_)
   refine reg_seq (N := 81) (bs := [(31, .bool (decide ((y1_6.length : Int) = 8))), (9, .bool t1006_2), (8, .int .i64 t1006_1), (0, .slice AL1_0 y1_0.length CL1_0), (1, .int .i64 x1_1), (6, .slice AL1_6 y1_6.length CL1_6), (7, .int .i64 x1_7)]) (I := fun x => Below w.heap.size w x ∧ Below wL1.heap.size wL1 x ∧ Below w1012.heap.size w1012 x) (ps := [VB t1006_2, VB (!t1006_2), VB (!t1006_2), VI t1006_1, IsV (.slice AL1_0 y1_0.length CL1_0), VI (y1_0.length : Int), VI x1_1, VI (wrap64 ((y1_0.length : Int) - x1_1)), VI (wrap64 ((wrap64 ((y1_0.length : Int) - x1_1)) - 4)), VB (decide (t1006_1 > (wrap64 ((wrap64 ((y1_0.length : Int) - x1_1)) - 4)))), VB (decide (t1006_1 > (wrap64 ((wrap64 ((y1_0.length : Int) - x1_1)) - 4)))), VB (decide (t1006_1 > (wrap64 ((wrap64 ((y1_0.length : Int) - x1_1)) - 4))))]) (by kernel_rfl) ?_ ?_ rfl hS ⟨hBw1012_w, hBw1012_wL1, hBw1012_w1012⟩ ?_ ?_
   ·exact fun x y hI hb => ⟨below_step hI.1 hb, below_step hI.2.1 hb, below_step hI.2.2 hb⟩
   ·exact .v (.v (.v (.v (.v (.v (.v (.v (.v (.v (.v (.v (.nil))))))))))))
   ·refine .ms 1 rfl rfl rfl ?_
    refine .on rfl (fun a w hS hI hp => does_val (x_not rfl (hp.V 0 rfl rfl)) rfl) ?_
    refine .mv 1 rfl rfl rfl rfl ?_
    refine .oy 2 38 rfl rfl rfl rfl rfl ((congrArg (!·) c5)) (fun a w hS hI hp => does_val (x_move rfl (hS.get 2 rfl)) rfl) ?_
    refine .oy 2 38 rfl rfl rfl rfl rfl ((congrArg (!·) c5)) (fun a w hS hI hp => does_val (x_move rfl (hS.get 3 rfl)) rfl) ?_
    refine .oy 2 38 rfl rfl rfl rfl rfl ((congrArg (!·) c5)) (fun a w hS hI hp => does_val (x_len (e := 5) rfl (by kernel_rfl) (hp.V 4 rfl rfl)) rfl) ?_
    refine .oy 2 38 rfl rfl rfl rfl rfl ((congrArg (!·) c5)) (fun a w hS hI hp => does_val (x_move rfl (hS.get 4 rfl)) rfl) ?_
    refine .oy 2 38 rfl rfl rfl rfl rfl ((congrArg (!·) c5)) (fun a w hS hI hp => does_val (x_bin rfl (hp.V 5 rfl rfl) (hp.V 6 rfl rfl) (b_sub _ _ _ _ _)) rfl) ?_
    refine .oy 2 38 rfl rfl rfl rfl rfl ((congrArg (!·) c5)) (fun a w hS hI hp => does_val (x_bin rfl (hp.V 7 rfl rfl) (rfl) (b_sub _ _ _ _ _)) rfl) ?_
    refine .oy 2 38 rfl rfl rfl rfl rfl ((congrArg (!·) c5)) (fun a w hS hI hp => does_val (x_bin rfl (hp.V 3 rfl rfl) (hp.V 8 rfl rfl) (b_gtr _ _ _ _ _ _)) rfl) ?_
    refine .on rfl (fun a w hS hI hp => does_val (x_pickF rfl ((hp.V 2 rfl rfl).trans (bF (congrArg (!·) c5))) (hp.V 9 rfl rfl)) rfl) ?_
    refine .asg 10 rfl rfl rfl rfl ?_
    exact .nil
   clear hS
   intro at1014 w1015 hS hI hp
   have hBw1015_w := hI.1
   have hBw1015_wL1 := hI.2.1
   have hBw1015_w1012 := hI.2.2
   replace hS := (((((hS.nil).cons (hS.get 6 rfl)).cons (hS.get 5 rfl)).cons (hS.get 4 rfl)).cons (hS.get 3 rfl)).cons (hS.get 2 rfl)
   have hv35 : sl _ 35 = .bool (decide (t1006_1 > (wrap64 ((wrap64 ((y1_0.length : Int) - x1_1)) - 4)))) := hp 11 (by decide)
   have hBw1015_w1015 := Below.refl w1015.heap.size w1015
   have hS := hS.cons hv35
   clear hp hI hv35
   refine hK1013 _ _ ?_
   (try clear hK1013 K1013)
   refine wp_cond_false ((hS.get 0 rfl).trans (bF (decide_eq_false c6))) ?_
   refine wp_seq_k (fun K1016 hK1016 => ?_)
   refine reg_seq (N := 81) (bs := [(35, .bool (decide (t1006_1 > (wrap64 ((wrap64 ((y1_0.length : Int) - x1_1)) - 4))))), (8, .int .i64 t1006_1), (0, .slice AL1_0 y1_0.length CL1_0), (1, .int .i64 x1_1), (6, .slice AL1_6 y1_6.length CL1_6), (7, .int .i64 x1_7)]) (I := fun x => Below w.heap.size w x ∧ Below wL1.heap.size wL1 x ∧ Below w1015.heap.size w1015 x) (ps := [VI t1006_1, VI (Int.tmod t1006_1 2), VB (!decide ((Int.tmod t1006_1 2) = 0)), VB (!decide ((Int.tmod t1006_1 2) = 0))]) (by kernel_rfl) ?_ ?_ rfl hS ⟨hBw1015_w, hBw1015_wL1, hBw1015_w1015⟩ ?_ ?_
   ·exact fun x y hI hb => ⟨below_step hI.1 hb, below_step hI.2.1 hb, below_step hI.2.2 hb⟩
   ·exact .v (.v (.v (.v (.nil))))
   ·refine .ms 1 rfl rfl rfl ?_
    refine .on rfl (fun a w hS hI hp => does_val (x_bin rfl (hp.V 0 rfl rfl) (rfl) (b_rem _ _ _ _ _ _ (by decide))) rfl) ?_
    refine .on rfl (fun a w hS hI hp => does_val (x_bin rfl (hp.V 1 rfl rfl) (rfl) (b_neq _ _ _ _ _ _)) rfl) ?_
    refine .asg 2 rfl rfl rfl rfl ?_
    exact .nil
   clear hS
   intro at1017 w1018 hS hI hp
   have hBw1018_w := hI.1
   have hBw1018_wL1 := hI.2.1
   have hBw1018_w1015 := hI.2.2
   replace hS := (((((hS.nil).cons (hS.get 5 rfl)).cons (hS.get 4 rfl)).cons (hS.get 3 rfl)).cons (hS.get 2 rfl)).cons (hS.get 1 rfl)
   have hv47 : sl _ 47 = .bool (!decide ((Int.tmod t1006_1 2) = 0)) := hp 3 (by decide)
   have hBw1018_w1018 := Below.refl w1018.heap.size w1018
   have hS := hS.cons hv47
   clear hp hI hv47
   refine hK1016 _ _ ?_
   (try clear hK1016 K1016)
   refine wp_cond_false ((hS.get 0 rfl).trans (bF (congrArg (!·) (decide_eq_true c7)))) ?_
   refine wp_skip ?_
   refine hK1009 _ _ ?_
   (try clear hK1009 K1009)
   refine wp_seq_k (fun K1019 hK1019 => ?_)
   refine wp_seq_k (fun K1020 hK1020 => ?_)
   refine reg_seq (N := 81) (bs := [(47, .bool (!decide ((Int.tmod t1006_1 2) = 0))), (8, .int .i64 t1006_1), (0, .slice AL1_0 y1_0.length CL1_0), (1, .int .i64 x1_1), (6, .slice AL1_6 y1_6.length CL1_6), (7, .int .i64 x1_7)]) (I := fun x => Below w.heap.size w x ∧ Below wL1.heap.size wL1 x ∧ Below w1018.heap.size w1018 x) (ps := [VI x1_7, VB (!decide (x1_7 = 0))]) (by kernel_rfl) ?_ ?_ rfl hS ⟨hBw1018_w, hBw1018_wL1, hBw1018_w1018⟩ ?_ ?_
   ·exact fun x y hI hb => ⟨below_step hI.1 hb, below_step hI.2.1 hb, below_step hI.2.2 hb⟩
   ·exact .v (.v (.nil))
   ·refine .ms 5 rfl rfl rfl ?_
    refine .on rfl (fun a w hS hI hp => does_val (x_bin rfl (hp.V 0 rfl rfl) (rfl) (b_neq _ _ _ _ _ _)) rfl) ?_
    exact .nil
   clear hS
   intro at1021 w1022 hS hI hp
   have hBw1022_w := hI.1
   have hBw1022_wL1 := hI.2.1
   have hBw1022_w1018 := hI.2.2
   replace hS := (((((hS.nil).cons (hS.get 5 rfl)).cons (hS.get 4 rfl)).cons (hS.get 3 rfl)).cons (hS.get 2 rfl)).cons (hS.get 1 rfl)
   have hv52 : sl _ 52 = .bool (!decide (x1_7 = 0)) := hp 1 (by decide)
   have hBw1022_w1022 := Below.refl w1022.heap.size w1022
   have hS := hS.cons hv52
   clear hp hI hv52
   refine hK1020 _ _ ?_
   (try clear hK1020 K1020)
   refine wp_cond_true ((hS.get 0 rfl).trans (bT (congrArg (!·) (decide_eq_false c8)))) ?_
   refine wp_exit ?_
   (try simp only [Exit.then, Exit.inBlock, reduceIte])
   refine hK15 _ _ ?_
   (try clear hK15 K15)
   refine wp_seq_k (fun K1023 hK1023 => ?_)
   refine wp_seq_k (fun K1024 hK1024 => ?_)
   refine reg_seq (N := 81) (bs := [(52, .bool (!decide (x1_7 = 0))), (8, .int .i64 t1006_1), (0, .slice AL1_0 y1_0.length CL1_0), (1, .int .i64 x1_1), (6, .slice AL1_6 y1_6.length CL1_6), (7, .int .i64 x1_7)]) (I := fun x => Below w.heap.size w x ∧ Below wL1.heap.size wL1 x ∧ Below w1022.heap.size w1022 x) (ps := [VI x1_7, VB (!decide (x1_7 = 0))]) (by kernel_rfl) ?_ ?_ rfl hS ⟨hBw1022_w, hBw1022_wL1, hBw1022_w1022⟩ ?_ ?_
   ·exact fun x y hI hb => ⟨below_step hI.1 hb, below_step hI.2.1 hb, below_step hI.2.2 hb⟩
   ·exact .v (.v (.nil))
   ·refine .ms 5 rfl rfl rfl ?_
    refine .on rfl (fun a w hS hI hp => does_val (x_bin rfl (hp.V 0 rfl rfl) (rfl) (b_neq _ _ _ _ _ _)) rfl) ?_
    exact .nil
   clear hS
   intro at1025 w1026 hS hI hp
   have hBw1026_w := hI.1
   have hBw1026_wL1 := hI.2.1
   have hBw1026_w1022 := hI.2.2
   replace hS := ((hS.nil).cons (hS.get 5 rfl)).cons (hS.get 4 rfl)
   have hv78 : sl _ 78 = .bool (!decide (x1_7 = 0)) := hp 1 (by decide)
   have hBw1026_w1026 := Below.refl w1026.heap.size w1026
   have hS := hS.cons hv78
   clear hp hI hv78
   refine hK1024 _ _ ?_
   (try clear hK1024 K1024)
   refine wp_cond_true ((hS.get 0 rfl).trans (bT (congrArg (!·) (decide_eq_false c8)))) ?_
   refine wp_seq_k (fun K1027 hK1027 => ?_)
   refine reg_seq (N := 81) (bs := [(78, .bool (!decide (x1_7 = 0))), (6, .slice AL1_6 y1_6.length CL1_6), (7, .int .i64 x1_7)]) (I := fun x => Below w.heap.size w x ∧ Below wL1.heap.size wL1 x ∧ Below w1026.heap.size w1026 x) (ps := [VI x1_7, IsV (.slice none 0 0), VI x1_7]) (by kernel_rfl) ?_ ?_ rfl hS ⟨hBw1026_w, hBw1026_wL1, hBw1026_w1026⟩ ?_ ?_
   ·exact fun x y hI hb => ⟨below_step hI.1 hb, below_step hI.2.1 hb, below_step hI.2.2 hb⟩
   ·exact .v (.v (.v (.nil)))
   ·refine .ms 2 rfl rfl rfl ?_
    refine .on rfl (fun a w hS hI hp => does_val (x_assign rfl (rfl)) rfl) ?_
    refine .asg 0 rfl rfl rfl rfl ?_
    exact .nil
   clear hS
   intro at1028 w1029 hS hI hp
   have hBw1029_w := hI.1
   have hBw1029_wL1 := hI.2.1
   have hBw1029_w1026 := hI.2.2
   replace hS := hS.nil
   have hv4 : sl _ 4 = .slice none 0 0 := hp 1 (by decide)
   have hv5 : sl _ 5 = .int .i64 x1_7 := hp 2 (by decide)
   have hBw1029_w1029 := Below.refl w1029.heap.size w1029
   have hS := hS.cons hv4
   have hS := hS.cons hv5
   clear hp hI hv4 hv5
   refine hK1027 _ _ ?_
   (try clear hK1027 K1027)
   refine wp_ret ?_
   (try simp only [Exit.then, Exit.inBlock, Exit.jump, Exit.noGoto])
   exact bodyPost_ret (v := .tuple #[.slice none 0 0, .int .i64 x1_7]) (results_list (rs := [.tmp 4, .tmp 5]) rfl (by simp) (Vals.at (hS.get 1 rfl) (Vals.at (hS.get 0 rfl) .nil))) hS.nodef ⟨.slice none 0 0, rfl, Kd.R_nil _ _ _ _ _, hBw1029_w⟩
  rw [if_pos c8] at H
  obtain ⟨t1024, At1024, H⟩ := Option.bind_eq_some_iff.mp H
  obtain ⟨t1024_1, t1024_2⟩ := t1024
  (try dsimp only at H)
  by_cases c9 : 0 ≤ (wrap64 (x1_1 + 4))
  rotate_left
  ·rw [if_neg c9] at H
   exact absurd H (by simp)
  rw [if_pos c9] at H
  by_cases c10 : (wrap64 (x1_1 + 4)) ≤ (wrap64 ((wrap64 (x1_1 + 4)) + t1006_1))
  rotate_left
  ·rw [if_neg c10] at H
   exact absurd H (by simp)
  rw [if_pos c10] at H
  by_cases c11 : (wrap64 ((wrap64 (x1_1 + 4)) + t1006_1)) ≤ (y1_0.length : Int)
  rotate_left
  ·rw [if_neg c11] at H
   exact absurd H (by simp)
  rw [if_pos c11] at H
  by_cases c12 : (y1_6.length + [(⟨t1024_1, strOfNums ((y1_0.take (wrap64 ((wrap64 (x1_1 + 4)) + t1006_1) : Int).toNat).drop (wrap64 (x1_1 + 4) : Int).toNat)⟩ : S26)].length) * 24 ≤ 140737488355328
  rotate_left
  ·rw [if_neg c12] at H
   exact absurd H (by simp)
  rw [if_pos c12] at H
  have hBwL1_wL1 := Below.refl wL1.heap.size wL1
  refine wp_seq_k (fun K1001 hK1001 => ?_)
  refine wp_seq_k (fun K1002 hK1002 => ?_)
  refine reg_seq (N := 81) (bs := [(0, .slice AL1_0 y1_0.length CL1_0), (1, .int .i64 x1_1), (6, .slice AL1_6 y1_6.length CL1_6), (7, .int .i64 x1_7)]) (I := fun x => Below w.heap.size w x ∧ Below wL1.heap.size wL1 x) (ps := [VI x1_1, IsV (.slice AL1_0 y1_0.length CL1_0), VI (y1_0.length : Int), VB (decide (x1_1 < (y1_0.length : Int)))]) (by kernel_rfl) ?_ ?_ rfl hS ⟨hBwL1_w, hBwL1_wL1⟩ ?_ ?_
  ·exact fun x y hI hb => ⟨below_step hI.1 hb, below_step hI.2 hb⟩
  ·exact .v (.v (.v (.v (.nil))))
  ·refine .ms 1 rfl rfl rfl ?_
   refine .ms 0 rfl rfl rfl ?_
   refine .on rfl (fun a w hS hI hp => does_val (x_len (e := 5) rfl (by kernel_rfl) (hp.V 1 rfl rfl)) rfl) ?_
   refine .on rfl (fun a w hS hI hp => does_val (x_bin rfl (hp.V 0 rfl rfl) (hp.V 2 rfl rfl) (b_lss _ _ _ _ _ _)) rfl) ?_
   exact .nil
  clear hS
  intro at1003 w1004 hS hI hp
  have hBw1004_w := hI.1
  have hBw1004_wL1 := hI.2
  have hv23 : sl _ 23 = .bool (decide (x1_1 < (y1_0.length : Int))) := hp 3 (by decide)
  have hBw1004_w1004 := Below.refl w1004.heap.size w1004
  have hS := hS.cons hv23
  clear hp hI hv23
  refine hK1002 _ _ ?_
  (try clear hK1002 K1002)
  refine wp_cond_true ((hS.get 0 rfl).trans (bT (decide_eq_true c3))) ?_
  refine wp_skip ?_
  refine hK1001 _ _ ?_
  (try clear hK1001 K1001)
  refine wp_block ?_
  refine wp_seq_k (fun K1005 hK1005 => ?_)
  refine reg_seq (N := 81) (bs := [(23, .bool (decide (x1_1 < (y1_0.length : Int)))), (0, .slice AL1_0 y1_0.length CL1_0), (1, .int .i64 x1_1), (6, .slice AL1_6 y1_6.length CL1_6), (7, .int .i64 x1_7)]) (I := fun x => Below w.heap.size w x ∧ Below wL1.heap.size wL1 x ∧ Below w1004.heap.size w1004 x) (ps := [IsV (.slice AL1_0 y1_0.length CL1_0), VI x1_1, VI (wrap64 (x1_1 + 2)), IsV (.tuple #[.int .i64 t1006_1, .bool t1006_2]), IsV (.tuple #[.int .i64 t1006_1, .bool t1006_2]), VI t1006_1, VB t1006_2, VI t1006_1, VB t1006_2]) (by kernel_rfl) ?_ ?_ rfl hS ⟨hBw1004_w, hBw1004_wL1, hBw1004_w1004⟩ ?_ ?_
  ·exact fun x y hI hb => ⟨below_step hI.1 hb, below_step hI.2.1 hb, below_step hI.2.2 hb⟩
  ·exact .v (.v (.v (.v (.v (.v (.v (.v (.v (.nil)))))))))
  ·refine .ms 1 rfl rfl rfl ?_
   refine .ms 2 rfl rfl rfl ?_
   refine .on rfl (fun a w hS hI hp => does_val (x_bin rfl (hp.V 1 rfl rfl) (rfl) (b_add _ _ _ _ _)) rfl) ?_
   refine .on rfl (fun a w hS hI hp => does_call (by kernel_rfl) (ar3 (hp.V 0 rfl rfl) (hp.V 2 rfl rfl) (rfl)) ((octets_Get.calls k _ _ y1_0 (wrap64 (x1_1 + 2)) 2 t1006_1 t1006_2 _ (Kd.C_below hcL1_0 hI.1) hr1_0 At1006).mono fun _ _ h => ⟨_, h.1, h.2.below, rfl⟩)) ?_
   refine .mv 3 rfl rfl rfl rfl ?_
   iterate 2 refine .on rfl (fun a w hS hI hp => does_val (x_extract rfl (hp.V 4 rfl rfl) rfl) rfl) ?_
   refine .asg 5 rfl rfl rfl rfl ?_
   refine .asg 6 rfl rfl rfl rfl ?_
   exact .nil
  clear hS
  intro at1007 w1008 hS hI hp
  have hBw1008_w := hI.1
  have hBw1008_wL1 := hI.2.1
  have hBw1008_w1004 := hI.2.2
  replace hS := ((((hS.nil).cons (hS.get 4 rfl)).cons (hS.get 3 rfl)).cons (hS.get 2 rfl)).cons (hS.get 1 rfl)
  have hv8 : sl _ 8 = .int .i64 t1006_1 := hp 7 (by decide)
  have hv9 : sl _ 9 = .bool t1006_2 := hp 8 (by decide)
  have hBw1008_w1008 := Below.refl w1008.heap.size w1008
  have hS := hS.cons hv8
  have hS := hS.cons hv9
  clear hp hI hv8 hv9
  refine hK1005 _ _ ?_
  (try clear hK1005 K1005)
  refine wp_seq_k (fun K1009 hK1009 => ?_)
  refine wp_block ?_
  refine wp_seq_k (fun K1010 hK1010 => ?_)
  refine reg_seq (N := 81) (bs := [(9, .bool t1006_2), (8, .int .i64 t1006_1), (0, .slice AL1_0 y1_0.length CL1_0), (1, .int .i64 x1_1), (6, .slice AL1_6 y1_6.length CL1_6), (7, .int .i64 x1_7)]) (I := fun x => Below w.heap.size w x ∧ Below wL1.heap.size wL1 x ∧ Below w1008.heap.size w1008 x) (ps := [IsV (.slice AL1_6 y1_6.length CL1_6), VI (y1_6.length : Int), VB (decide ((y1_6.length : Int) = 8)), VB (decide ((y1_6.length : Int) = 8))]) (by kernel_rfl) ?_ ?_ rfl hS ⟨hBw1008_w, hBw1008_wL1, hBw1008_w1008⟩ ?_ ?_
  ·exact fun x y hI hb => ⟨below_step hI.1 hb, below_step hI.2.1 hb, below_step hI.2.2 hb⟩
  ·exact .v (.v (.v (.v (.nil))))
  ·refine .ms 4 rfl rfl rfl ?_
   refine .on rfl (fun a w hS hI hp => does_val (x_len (e := 26) rfl (by kernel_rfl) (hp.V 0 rfl rfl)) rfl) ?_
   refine .on rfl (fun a w hS hI hp => does_val (x_bin rfl (hp.V 1 rfl rfl) (rfl) (b_eql _ _ _ _ _ _)) rfl) ?_
   refine .asg 2 rfl rfl rfl rfl ?_
   exact .nil
  clear hS
  intro at1011 w1012 hS hI hp
  have hBw1012_w := hI.1
  have hBw1012_wL1 := hI.2.1
  have hBw1012_w1008 := hI.2.2
  have hv31 : sl _ 31 = .bool (decide ((y1_6.length : Int) = 8)) := hp 3 (by decide)
  have hBw1012_w1012 := Below.refl w1012.heap.size w1012
  have hS := hS.cons hv31
  clear hp hI hv31
  refine hK1010 _ _ ?_
  (try clear hK1010 K1010)
  refine wp_cond_false ((hS.get 0 rfl).trans (bF (decide_eq_false c4))) ?_
  refine wp_seq_k (fun K1013 hK1013 => ?_)
  refine reg_seq (N := 81) (bs := [(31, .bool (decide ((y1_6.length : Int) = 8))), (9, .bool t1006_2), (8, .int .i64 t1006_1), (0, .slice AL1_0 y1_0.length CL1_0), (1, .int .i64 x1_1), (6, .slice AL1_6 y1_6.length CL1_6), (7, .int .i64 x1_7)]) (I := fun x => Below w.heap.size w x ∧ Below wL1.heap.size wL1 x ∧ Below w1012.heap.size w1012 x) (ps := [VB t1006_2, VB (!t1006_2), VB (!t1006_2), VI t1006_1, IsV (.slice AL1_0 y1_0.length CL1_0), VI (y1_0.length : Int), VI x1_1, VI (wrap64 ((y1_0.length : Int) - x1_1)), VI (wrap64 ((wrap64 ((y1_0.length : Int) - x1_1)) - 4)), VB (decide (t1006_1 > (wrap64 ((wrap64 ((y1_0.length : Int) - x1_1)) - 4)))), VB (decide (t1006_1 > (wrap64 ((wrap64 ((y1_0.length : Int) - x1_1)) - 4)))), VB (decide (t1006_1 > (wrap64 ((wrap64 ((y1_0.length : Int) - x1_1)) - 4))))]) (by kernel_rfl) ?_ ?_ rfl hS ⟨hBw1012_w, hBw1012_wL1, hBw1012_w1012⟩ ?_ ?_
  ·exact fun x y hI hb => ⟨below_step hI.1 hb, below_step hI.2.1 hb, below_step hI.2.2 hb⟩
  ·exact .v (.v (.v (.v (.v (.v (.v (.v (.v (.v (.v (.v (.nil))))))))))))
  ·refine .ms 1 rfl rfl rfl ?_
   refine .on rfl (fun a w hS hI hp => does_val (x_not rfl (hp.V 0 rfl rfl)) rfl) ?_
   refine .mv 1 rfl rfl rfl rfl ?_
   refine .oy 2 38 rfl rfl rfl rfl rfl ((congrArg (!·) c5)) (fun a w hS hI hp => does_val (x_move rfl (hS.get 2 rfl)) rfl) ?_
   refine .oy 2 38 rfl rfl rfl rfl rfl ((congrArg (!·) c5)) (fun a w hS hI hp => does_val (x_move rfl (hS.get 3 rfl)) rfl) ?_
   refine .oy 2 38 rfl rfl rfl rfl rfl ((congrArg (!·) c5)) (fun a w hS hI hp => does_val (x_len (e := 5) rfl (by kernel_rfl) (hp.V 4 rfl rfl)) rfl) ?_
   refine .oy 2 38 rfl rfl rfl rfl rfl ((congrArg (!·) c5)) (fun a w hS hI hp => does_val (x_move rfl (hS.get 4 rfl)) rfl) ?_
   refine .oy 2 38 rfl rfl rfl rfl rfl ((congrArg (!·) c5)) (fun a w hS hI hp => does_val (x_bin rfl (hp.V 5 rfl rfl) (hp.V 6 rfl rfl) (b_sub _ _ _ _ _)) rfl) ?_
   refine .oy 2 38 rfl rfl rfl rfl rfl ((congrArg (!·) c5)) (fun a w hS hI hp => does_val (x_bin rfl (hp.V 7 rfl rfl) (rfl) (b_sub _ _ _ _ _)) rfl) ?_
   refine .oy 2 38 rfl rfl rfl rfl rfl ((congrArg (!·) c5)) (fun a w hS hI hp => does_val (x_bin rfl (hp.V 3 rfl rfl) (hp.V 8 rfl rfl) (b_gtr _ _ _ _ _ _)) rfl) ?_
   refine .on rfl (fun a w hS hI hp => does_val (x_pickF rfl ((hp.V 2 rfl rfl).trans (bF (congrArg (!·) c5))) (hp.V 9 rfl rfl)) rfl) ?_
   refine .asg 10 rfl rfl rfl rfl ?_
   exact .nil
  clear hS
  intro at1014 w1015 hS hI hp
  have hBw1015_w := hI.1
  have hBw1015_wL1 := hI.2.1
  have hBw1015_w1012 := hI.2.2
  replace hS := (((((hS.nil).cons (hS.get 6 rfl)).cons (hS.get 5 rfl)).cons (hS.get 4 rfl)).cons (hS.get 3 rfl)).cons (hS.get 2 rfl)
  have hv35 : sl _ 35 = .bool (decide (t1006_1 > (wrap64 ((wrap64 ((y1_0.length : Int) - x1_1)) - 4)))) := hp 11 (by decide)
  have hBw1015_w1015 := Below.refl w1015.heap.size w1015
  have hS := hS.cons hv35
  clear hp hI hv35
  refine hK1013 _ _ ?_
  (try clear hK1013 K1013)
  refine wp_cond_false ((hS.get 0 rfl).trans (bF (decide_eq_false c6))) ?_
  refine wp_seq_k (fun K1016 hK1016 => ?_)
  refine reg_seq (N := 81) (bs := [(35, .bool (decide (t1006_1 > (wrap64 ((wrap64 ((y1_0.length : Int) - x1_1)) - 4))))), (8, .int .i64 t1006_1), (0, .slice AL1_0 y1_0.length CL1_0), (1, .int .i64 x1_1), (6, .slice AL1_6 y1_6.length CL1_6), (7, .int .i64 x1_7)]) (I := fun x => Below w.heap.size w x ∧ Below wL1.heap.size wL1 x ∧ Below w1015.heap.size w1015 x) (ps := [VI t1006_1, VI (Int.tmod t1006_1 2), VB (!decide ((Int.tmod t1006_1 2) = 0)), VB (!decide ((Int.tmod t1006_1 2) = 0))]) (by kernel_rfl) ?_ ?_ rfl hS ⟨hBw1015_w, hBw1015_wL1, hBw1015_w1015⟩ ?_ ?_
  ·exact fun x y hI hb => ⟨below_step hI.1 hb, below_step hI.2.1 hb, below_step hI.2.2 hb⟩
  ·exact .v (.v (.v (.v (.nil))))
  ·refine .ms 1 rfl rfl rfl ?_
   refine .on rfl (fun a w hS hI hp => does_val (x_bin rfl (hp.V 0 rfl rfl) (rfl) (b_rem _ _ _ _ _ _ (by decide))) rfl) ?_
   refine .on rfl (fun a w hS hI hp => does_val (x_bin rfl (hp.V 1 rfl rfl) (rfl) (b_neq _ _ _ _ _ _)) rfl) ?_
   refine .asg 2 rfl rfl rfl rfl ?_
   exact .nil
  clear hS
  intro at1017 w1018 hS hI hp
  have hBw1018_w := hI.1
  have hBw1018_wL1 := hI.2.1
  have hBw1018_w1015 := hI.2.2
  replace hS := (((((hS.nil).cons (hS.get 5 rfl)).cons (hS.get 4 rfl)).cons (hS.get 3 rfl)).cons (hS.get 2 rfl)).cons (hS.get 1 rfl)
  have hv47 : sl _ 47 = .bool (!decide ((Int.tmod t1006_1 2) = 0)) := hp 3 (by decide)
  have hBw1018_w1018 := Below.refl w1018.heap.size w1018
  have hS := hS.cons hv47
  clear hp hI hv47
  refine hK1016 _ _ ?_
  (try clear hK1016 K1016)
  refine wp_cond_false ((hS.get 0 rfl).trans (bF (congrArg (!·) (decide_eq_true c7)))) ?_
  refine wp_skip ?_
  refine hK1009 _ _ ?_
  (try clear hK1009 K1009)
  refine wp_seq_k (fun K1019 hK1019 => ?_)
  refine wp_seq_k (fun K1020 hK1020 => ?_)
  refine reg_seq (N := 81) (bs := [(47, .bool (!decide ((Int.tmod t1006_1 2) = 0))), (8, .int .i64 t1006_1), (0, .slice AL1_0 y1_0.length CL1_0), (1, .int .i64 x1_1), (6, .slice AL1_6 y1_6.length CL1_6), (7, .int .i64 x1_7)]) (I := fun x => Below w.heap.size w x ∧ Below wL1.heap.size wL1 x ∧ Below w1018.heap.size w1018 x) (ps := [VI x1_7, VB (!decide (x1_7 = 0))]) (by kernel_rfl) ?_ ?_ rfl hS ⟨hBw1018_w, hBw1018_wL1, hBw1018_w1018⟩ ?_ ?_
  ·exact fun x y hI hb => ⟨below_step hI.1 hb, below_step hI.2.1 hb, below_step hI.2.2 hb⟩
  ·exact .v (.v (.nil))
  ·refine .ms 5 rfl rfl rfl ?_
   refine .on rfl (fun a w hS hI hp => does_val (x_bin rfl (hp.V 0 rfl rfl) (rfl) (b_neq _ _ _ _ _ _)) rfl) ?_
   exact .nil
  clear hS
  intro at1021 w1022 hS hI hp
  have hBw1022_w := hI.1
  have hBw1022_wL1 := hI.2.1
  have hBw1022_w1018 := hI.2.2
  replace hS := (((((hS.nil).cons (hS.get 5 rfl)).cons (hS.get 4 rfl)).cons (hS.get 3 rfl)).cons (hS.get 2 rfl)).cons (hS.get 1 rfl)
  have hv52 : sl _ 52 = .bool (!decide (x1_7 = 0)) := hp 1 (by decide)
  have hBw1022_w1022 := Below.refl w1022.heap.size w1022
  have hS := hS.cons hv52
  clear hp hI hv52
  refine hK1020 _ _ ?_
  (try clear hK1020 K1020)
  refine wp_cond_false ((hS.get 0 rfl).trans (bF (congrArg (!·) (decide_eq_true c8)))) ?_
  refine wp_skip ?_
  refine hK1019 _ _ ?_
  (try clear hK1019 K1019)
  refine wp_seq_k (fun K1023 hK1023 => ?_)
  refine reg_seq (N := 81) (bs := [(52, .bool (!decide (x1_7 = 0))), (8, .int .i64 t1006_1), (0, .slice AL1_0 y1_0.length CL1_0), (1, .int .i64 x1_1), (6, .slice AL1_6 y1_6.length CL1_6), (7, .int .i64 x1_7)]) (I := fun x => Below w.heap.size w x ∧ Below wL1.heap.size wL1 x ∧ Below w1022.heap.size w1022 x) (ps := [IsV (.slice AL1_0 y1_0.length CL1_0), VI x1_1, IsV (.tuple #[.int .i64 t1024_1, .bool t1024_2]), IsV (.tuple #[.int .i64 t1024_1, .bool t1024_2]), VI t1024_1, VB t1024_2, VI t1024_1, VB t1024_2]) (by kernel_rfl) ?_ ?_ rfl hS ⟨hBw1022_w, hBw1022_wL1, hBw1022_w1022⟩ ?_ ?_
  ·exact fun x y hI hb => ⟨below_step hI.1 hb, below_step hI.2.1 hb, below_step hI.2.2 hb⟩
  ·exact .v (.v (.v (.v (.v (.v (.v (.v (.nil))))))))
  ·refine .ms 2 rfl rfl rfl ?_
   refine .ms 3 rfl rfl rfl ?_
   refine .on rfl (fun a w hS hI hp => does_call (by kernel_rfl) (ar3 (hp.V 0 rfl rfl) (hp.V 1 rfl rfl) (rfl)) ((octets_Get.calls k _ _ y1_0 x1_1 2 t1024_1 t1024_2 _ (Kd.C_below hcL1_0 hI.1) hr1_0 At1024).mono fun _ _ h => ⟨_, h.1, h.2.below, rfl⟩)) ?_
   refine .mv 2 rfl rfl rfl rfl ?_
   iterate 2 refine .on rfl (fun a w hS hI hp => does_val (x_extract rfl (hp.V 3 rfl rfl) rfl) rfl) ?_
   refine .asg 4 rfl rfl rfl rfl ?_
   refine .asg 5 rfl rfl rfl rfl ?_
   exact .nil
  clear hS
  intro at1025 w1026 hS hI hp
  have hBw1026_w := hI.1
  have hBw1026_wL1 := hI.2.1
  have hBw1026_w1022 := hI.2.2
  replace hS := (((((hS.nil).cons (hS.get 5 rfl)).cons (hS.get 4 rfl)).cons (hS.get 3 rfl)).cons (hS.get 2 rfl)).cons (hS.get 1 rfl)
  have hv10 : sl _ 10 = .int .i64 t1024_1 := hp 6 (by decide)
  have hBw1026_w1026 := Below.refl w1026.heap.size w1026
  have hS := hS.cons hv10
  clear hp hI hv10
  refine hK1023 _ _ ?_
  (try clear hK1023 K1023)
  refine wp_seq_k (fun K1027 hK1027 => ?_)
  refine reg_seq_tail 13 (N := 81) (bs := [(10, .int .i64 t1024_1), (8, .int .i64 t1006_1), (0, .slice AL1_0 y1_0.length CL1_0), (1, .int .i64 x1_1), (6, .slice AL1_6 y1_6.length CL1_6), (7, .int .i64 x1_7)]) (I := fun x => Below w.heap.size w x ∧ Below wL1.heap.size wL1 x ∧ Below w1026.heap.size w1026 x) (ps := [IsV (.slice AL1_6 y1_6.length CL1_6), VI t1024_1, IsV (.slice AL1_0 y1_0.length CL1_0), VI x1_1, VI (wrap64 (x1_1 + 4)), VI x1_1, VI (wrap64 (x1_1 + 4)), VI t1006_1, VI (wrap64 ((wrap64 (x1_1 + 4)) + t1006_1)), IsC (Kd.int .u8) ((y1_0.take (wrap64 ((wrap64 (x1_1 + 4)) + t1006_1) : Int).toNat).drop (wrap64 (x1_1 + 4) : Int).toNat), IsV (.string (strOfNums ((y1_0.take (wrap64 ((wrap64 (x1_1 + 4)) + t1006_1) : Int).toNat).drop (wrap64 (x1_1 + 4) : Int).toNat))), IsV (.agg #[.int .i64 t1024_1, .string (strOfNums ((y1_0.take (wrap64 ((wrap64 (x1_1 + 4)) + t1006_1) : Int).toNat).drop (wrap64 (x1_1 + 4) : Int).toNat))]), IsR k26 26 w1026.heap.size [(⟨t1024_1, strOfNums ((y1_0.take (wrap64 ((wrap64 (x1_1 + 4)) + t1006_1) : Int).toNat).drop (wrap64 (x1_1 + 4) : Int).toNat)⟩ : S26)]]) (by kernel_rfl) ?_ ?_ rfl hS ⟨hBw1026_w, hBw1026_wL1, hBw1026_w1026⟩ ?_ ?_
  ·exact fun x y hI hb => ⟨below_step hI.1 hb, below_step hI.2.1 hb, below_step hI.2.2 hb⟩
  ·exact .v (.v (.v (.v (.v (.v (.v (.v (.v (.cons (Stays.c _ _) (.v (.v (.cons (Stays.r _ _ _ _) (.nil)))))))))))))
  ·refine .ms 4 rfl rfl rfl ?_
   refine .ms 0 rfl rfl rfl ?_
   refine .ms 2 rfl rfl rfl ?_
   refine .ms 3 rfl rfl rfl ?_
   refine .on rfl (fun a w hS hI hp => does_val (x_bin rfl (hp.V 3 rfl rfl) (rfl) (b_add _ _ _ _ _)) rfl) ?_
   refine .ms 3 rfl rfl rfl ?_
   refine .on rfl (fun a w hS hI hp => does_val (x_bin rfl (hp.V 5 rfl rfl) (rfl) (b_add _ _ _ _ _)) rfl) ?_
   refine .ms 1 rfl rfl rfl ?_
   refine .on rfl (fun a w hS hI hp => does_val (x_bin rfl (hp.V 6 rfl rfl) (hp.V 7 rfl rfl) (b_add _ _ _ _ _)) rfl) ?_
   refine .on rfl (fun a w hS hI hp => does_cut (i := wrap64 (x1_1 + 4)) (j := wrap64 ((wrap64 (x1_1 + 4)) + t1006_1)) rfl (e := 5) (by kernel_rfl) (by kernel_rfl) (hp.V 2 rfl rfl) (.inr ⟨_, rfl, (hp.V 4 rfl rfl)⟩) (.inr ⟨_, rfl, (hp.V 8 rfl rfl)⟩) c9 c10 c11 hr1_0 ((Kd.C_below hcL1_0 hI.1))) ?_
   refine .on rfl (fun a w hS hI hp => (hp.V 9 rfl rfl).elim fun A_ h_ => h_.elim fun c_ h_ => h_.elim fun hv_ h_ => h_.elim fun hl_ hc_ => does_val (x_conv rfl hv_ (Kd.C_string (by kernel_rfl) (e := 5) (by kernel_rfl) (by kernel_rfl) hc_)) rfl) ?_
   refine .on rfl (fun a w hS hI hp => does_val (x_build (vs := [(0, .int .i64 t1024_1), (1, .string (strOfNums ((y1_0.take (wrap64 ((wrap64 (x1_1 + 4)) + t1006_1) : Int).toNat).drop (wrap64 (x1_1 + 4) : Int).toNat)))]) rfl (by rw [Array.toList_map]; exact (show [(0, a.eval (.tmp 60)), (1, a.eval (.tmp 69))] = _ from (li_cons (hp.V 1 rfl rfl) (li_cons (hp.V 10 rfl rfl) rfl)))) (by kernel_rfl)) rfl) ?_
   refine .on rfl (fun a w hS hI hp => does_litT tlv_Get.flat26 w1026.heap.size 22 26 _ [(0, .agg #[.int .i64 t1024_1, .string (strOfNums ((y1_0.take (wrap64 ((wrap64 (x1_1 + 4)) + t1006_1) : Int).toNat).drop (wrap64 (x1_1 + 4) : Int).toNat))])] (⟨t1024_1, strOfNums ((y1_0.take (wrap64 ((wrap64 (x1_1 + 4)) + t1006_1) : Int).toNat).drop (wrap64 (x1_1 + 4) : Int).toNat)⟩ : S26) rfl (by kernel_rfl) (by rw [Array.toList_map]; exact (show [(0, a.eval (.tmp 70))] = _ from (li_cons (hp.V 11 rfl rfl) rfl))) (by kernel_rfl) (hI.2.2).size) ?_
   exact .nil
  clear hS
  intro at1028 w1029 hS hI hp
  have hBw1029_w := hI.1
  have hBw1029_wL1 := hI.2.1
  have hBw1029_w1026 := hI.2.2
  replace hS := (((((hS.nil).cons (hS.get 5 rfl)).cons (hS.get 4 rfl)).cons (hS.get 3 rfl)).cons (hS.get 2 rfl)).cons (hS.get 1 rfl)
  have hv59 : sl _ 59 = .slice AL1_6 y1_6.length CL1_6 := hp 0 (by decide)
  obtain ⟨A1030, C1030, hv71, hl1030, hc1030⟩ := Kd.R_reads (show Kd.R k26 26 w1029 w1026.heap.size (fun _ => True) (sl _ 71) [(⟨t1024_1, strOfNums ((y1_0.take (wrap64 ((wrap64 (x1_1 + 4)) + t1006_1) : Int).toNat).drop (wrap64 (x1_1 + 4) : Int).toNat)⟩ : S26)] from hp 12 (by decide))
  have ho1030 : Kd.R k26 26 w1029 w1026.heap.size (fun _ => True) (.slice A1030 [(⟨t1024_1, strOfNums ((y1_0.take (wrap64 ((wrap64 (x1_1 + 4)) + t1006_1) : Int).toNat).drop (wrap64 (x1_1 + 4) : Int).toNat)⟩ : S26)].length C1030) [(⟨t1024_1, strOfNums ((y1_0.take (wrap64 ((wrap64 (x1_1 + 4)) + t1006_1) : Int).toNat).drop (wrap64 (x1_1 + 4) : Int).toNat)⟩ : S26)] := hv71 ▸ (hp 12 (by decide))
  have hBw1029_w1029 := Below.refl w1029.heap.size w1029
  have hS := hS.cons hv59
  have hS := hS.cons hv71
  clear hp hI hv59 hv71
  show wpList _ _ _ [_, _] _ _
  refine list_step rfl (does_moreT tlv_Get.flat26 (W := w) (.tmp 59) (.tmp 71) 22 26 (.agg #[(.int .i64 0), (.string ⟨#[]⟩)]) 24 rfl (by kernel_rfl) (by kernel_rfl) rfl (by decide) (by decide) _ y1_6 [(⟨t1024_1, strOfNums ((y1_0.take (wrap64 ((wrap64 (x1_1 + 4)) + t1006_1) : Int).toNat).drop (wrap64 (x1_1 + 4) : Int).toNat)⟩ : S26)] _ _ _ (hS.get 1 rfl) (hS.get 0 rfl) (Kd.R_below hoL1_6 hBw1029_wL1) (Kd.C_below hc1030 hBw1029_w1029) hBw1029_w c12) ?_
  rintro vw1031 w1031 ⟨hb, hr, hk⟩
  clear hk
  have hBw1031_w := hb
  replace hS := ((((hS.nil).cons (hS.get 6 rfl)).cons (hS.get 4 rfl)).cons (hS.get 3 rfl)).cons (hS.get 2 rfl)
  have hBw1031_w1031 := Below.refl w1031.heap.size w1031
  obtain ⟨A1032, C1032, rfl, hl1032, hc1032⟩ := Kd.R_reads hr
  have hr1032 := hr
  clear hr
  refine hS.next (v := .slice A1032 ((y1_6 ++ [(⟨t1024_1, strOfNums ((y1_0.take (wrap64 ((wrap64 (x1_1 + 4)) + t1006_1) : Int).toNat).drop (wrap64 (x1_1 + 4) : Int).toNat)⟩ : S26)] : List S26).length) C1032) (d := 72) rfl (by decide) (by rfl) ?_
  clear hS
  intro at1033 hS
  refine list_step rfl (R := fun v w' => Below _ _ w' ∧ (IsV (.slice A1032 ((y1_6 ++ [(⟨t1024_1, strOfNums ((y1_0.take (wrap64 ((wrap64 (x1_1 + 4)) + t1006_1) : Int).toNat).drop (wrap64 (x1_1 + 4) : Int).toNat)⟩ : S26)] : List S26).length) C1032)) v w') (does_val (x_assign rfl (hS.get 0 rfl)) rfl) ?_
  rintro vw1034 w1034 ⟨hb, he⟩
  have hBw1034_w := below_step hBw1031_w hb
  have hBw1034_w1031 := below_step hBw1031_w1031 hb
  have hBw1034_w1034 := Below.refl w1034.heap.size w1034
  obtain rfl : vw1034 = .slice A1032 ((y1_6 ++ [(⟨t1024_1, strOfNums ((y1_0.take (wrap64 ((wrap64 (x1_1 + 4)) + t1006_1) : Int).toNat).drop (wrap64 (x1_1 + 4) : Int).toNat)⟩ : S26)] : List S26).length) C1032 := he
  refine hS.next (v := .slice A1032 ((y1_6 ++ [(⟨t1024_1, strOfNums ((y1_0.take (wrap64 ((wrap64 (x1_1 + 4)) + t1006_1) : Int).toNat).drop (wrap64 (x1_1 + 4) : Int).toNat)⟩ : S26)] : List S26).length) C1032) (d := 6) rfl (by decide) (by rfl) ?_
  clear hS
  intro at1035 hS
  refine wpList_nil ?_
  refine hK1027 _ _ ?_
  (try clear hK1027 K1027)
  refine reg_seq_tail 4 (N := 81) (bs := [(6, .slice A1032 ((y1_6 ++ [(⟨t1024_1, strOfNums ((y1_0.take (wrap64 ((wrap64 (x1_1 + 4)) + t1006_1) : Int).toNat).drop (wrap64 (x1_1 + 4) : Int).toNat)⟩ : S26)] : List S26).length) C1032), (72, .slice A1032 ((y1_6 ++ [(⟨t1024_1, strOfNums ((y1_0.take (wrap64 ((wrap64 (x1_1 + 4)) + t1006_1) : Int).toNat).drop (wrap64 (x1_1 + 4) : Int).toNat)⟩ : S26)] : List S26).length) C1032), (8, .int .i64 t1006_1), (0, .slice AL1_0 y1_0.length CL1_0), (1, .int .i64 x1_1), (7, .int .i64 x1_7)]) (I := fun x => Below w.heap.size w x ∧ Below w1031.heap.size w1031 x ∧ Below w1034.heap.size w1034 x) (ps := [VI x1_1, VI t1006_1, VI (wrap64 (4 + t1006_1)), VI (wrap64 (x1_1 + (wrap64 (4 + t1006_1))))]) (by kernel_rfl) ?_ ?_ rfl hS ⟨hBw1034_w, hBw1034_w1031, hBw1034_w1034⟩ ?_ ?_
  ·exact fun x y hI hb => ⟨below_step hI.1 hb, below_step hI.2.1 hb, below_step hI.2.2 hb⟩
  ·exact .v (.v (.v (.v (.nil))))
  ·refine .ms 4 rfl rfl rfl ?_
   refine .ms 2 rfl rfl rfl ?_
   refine .on rfl (fun a w hS hI hp => does_val (x_bin rfl (rfl) (hp.V 1 rfl rfl) (b_add _ _ _ _ _)) rfl) ?_
   refine .on rfl (fun a w hS hI hp => does_val (x_bin rfl (hp.V 0 rfl rfl) (hp.V 2 rfl rfl) (b_add _ _ _ _ _)) rfl) ?_
   exact .nil
  clear hS
  intro at1036 w1037 hS hI hp
  have hBw1037_w := hI.1
  have hBw1037_w1031 := hI.2.1
  have hBw1037_w1034 := hI.2.2
  replace hS := ((((hS.nil).cons (hS.get 5 rfl)).cons (hS.get 4 rfl)).cons (hS.get 3 rfl)).cons (hS.get 0 rfl)
  have hv76 : sl _ 76 = .int .i64 (wrap64 (x1_1 + (wrap64 (4 + t1006_1)))) := hp 3 (by decide)
  have hBw1037_w1037 := Below.refl w1037.heap.size w1037
  have hS := hS.cons hv76
  clear hp hI hv76
  show wpList _ _ _ [_] _ _
  refine list_step rfl (R := fun v w' => Below _ _ w' ∧ (VI (wrap64 (x1_1 + (wrap64 (4 + t1006_1))))) v w') (does_val (x_assign rfl (hS.get 0 rfl)) rfl) ?_
  rintro vw1038 w1038 ⟨hb, he⟩
  have hBw1038_w := below_step hBw1037_w hb
  have hBw1038_w1031 := below_step hBw1037_w1031 hb
  have hBw1038_w1037 := below_step hBw1037_w1037 hb
  have hBw1038_w1038 := Below.refl w1038.heap.size w1038
  obtain rfl : vw1038 = .int .i64 (wrap64 (x1_1 + (wrap64 (4 + t1006_1)))) := he
  replace hS := ((((hS.nil).cons (hS.get 4 rfl)).cons (hS.get 2 rfl)).cons (hS.get 1 rfl)).cons (hS.get 0 rfl)
  refine hS.next (v := .int .i64 (wrap64 (x1_1 + (wrap64 (4 + t1006_1))))) (d := 1) rfl (by decide) (by rfl) ?_
  clear hS
  intro at1039 hS
  refine wpList_nil ?_
  replace hS := ((((hS.nil).cons (hS.get 4 rfl)).cons (hS.get 2 rfl)).cons (hS.get 0 rfl)).cons (hS.get 3 rfl)
  (try simp only [Exit.then, Exit.inBlock])
  exact ⟨n1, Nat.lt_succ_self _, y1_0, AL1_0, CL1_0, wrap64 (x1_1 + (wrap64 (4 + t1006_1))), (y1_6 ++ [(⟨t1024_1, strOfNums ((y1_0.take (wrap64 ((wrap64 (x1_1 + 4)) + t1006_1) : Int).toNat).drop (wrap64 (x1_1 + 4) : Int).toNat)⟩ : S26)] : List S26), A1032, C1032, x1_7, H, hS, hBw1038_w, hr1_0, (hcL1_0), hl1032, (Kd.R_lower (Kd.R_below hr1032 hBw1038_w1031) (Nat.le_refl _))⟩
 rw [if_neg c7] at H
 by_cases c8 : 4 = 0
 rotate_left
 ·rw [if_neg c8] at H
  simp only [Option.some.injEq, Prod.mk.injEq] at H
  obtain ⟨rfl, rfl⟩ := H
  have hBwL1_wL1 := Below.refl wL1.heap.size wL1
  refine wp_seq_k (fun K1001 hK1001 => ?_)
  refine wp_seq_k (fun K1002 hK1002 => ?_)
  refine reg_seq (N := 81) (bs := [(0, .slice AL1_0 y1_0.length CL1_0), (1, .int .i64 x1_1), (6, .slice AL1_6 y1_6.length CL1_6), (7, .int .i64 x1_7)]) (I := fun x => Below w.heap.size w x ∧ Below wL1.heap.size wL1 x) (ps := [VI x1_1, IsV (.slice AL1_0 y1_0.length CL1_0), VI (y1_0.length : Int), VB (decide (x1_1 < (y1_0.length : Int)))]) (by kernel_rfl) ?_ ?_ rfl hS ⟨hBwL1_w, hBwL1_wL1⟩ ?_ ?_
  ·exact fun x y hI hb => ⟨below_step hI.1 hb, below_step hI.2 hb⟩
  ·exact .v (.v (.v (.v (.nil))))
  ·refine .ms 1 rfl rfl rfl ?_
   refine .ms 0 rfl rfl rfl ?_
   refine .on rfl (fun a w hS hI hp => does_val (x_len (e := 5) rfl (by kernel_rfl) (hp.V 1 rfl rfl)) rfl) ?_
   refine .on rfl (fun a w hS hI hp => does_val (x_bin rfl (hp.V 0 rfl rfl) (hp.V 2 rfl rfl) (b_lss _ _ _ _ _ _)) rfl) ?_
   exact .nil
  clear hS
  intro at1003 w1004 hS hI hp
  have hBw1004_w := hI.1
  have hBw1004_wL1 := hI.2
  have hv23 : sl _ 23 = .bool (decide (x1_1 < (y1_0.length : Int))) := hp 3 (by decide)
  have hBw1004_w1004 := Below.refl w1004.heap.size w1004
  have hS := hS.cons hv23
  clear hp hI hv23
  refine hK1002 _ _ ?_
  (try clear hK1002 K1002)
  refine wp_cond_true ((hS.get 0 rfl).trans (bT (decide_eq_true c3))) ?_
  refine wp_skip ?_
  refine hK1001 _ _ ?_
  (try clear hK1001 K1001)
  refine wp_block ?_
  refine wp_seq_k (fun K1005 hK1005 => ?_)
  refine reg_seq (N := 81) (bs := [(23, .bool (decide (x1_1 < (y1_0.length : Int)))), (0, .slice AL1_0 y1_0.length CL1_0), (1, .int .i64 x1_1), (6, .slice AL1_6 y1_6.length CL1_6), (7, .int .i64 x1_7)]) (I := fun x => Below w.heap.size w x ∧ Below wL1.heap.size wL1 x ∧ Below w1004.heap.size w1004 x) (ps := [IsV (.slice AL1_0 y1_0.length CL1_0), VI x1_1, VI (wrap64 (x1_1 + 2)), IsV (.tuple #[.int .i64 t1006_1, .bool t1006_2]), IsV (.tuple #[.int .i64 t1006_1, .bool t1006_2]), VI t1006_1, VB t1006_2, VI t1006_1, VB t1006_2]) (by kernel_rfl) ?_ ?_ rfl hS ⟨hBw1004_w, hBw1004_wL1, hBw1004_w1004⟩ ?_ ?_
  ·exact fun x y hI hb => ⟨below_step hI.1 hb, below_step hI.2.1 hb, below_step hI.2.2 hb⟩
  ·exact .v (.v (.v (.v (.v (.v (.v (.v (.v (.nil)))))))))
  ·refine .ms 1 rfl rfl rfl ?_
   refine .ms 2 rfl rfl rfl ?_
   refine .on rfl (fun a w hS hI hp => does_val (x_bin rfl (hp.V 1 rfl rfl) (rfl) (b_add _ _ _ _ _)) rfl) ?_
   refine .on rfl (fun a w hS hI hp => does_call (by kernel_rfl) (ar3 (hp.V 0 rfl rfl) (hp.V 2 rfl rfl) (rfl)) ((octets_Get.calls k _ _ y1_0 (wrap64 (x1_1 + 2)) 2 t1006_1 t1006_2 _ (Kd.C_below hcL1_0 hI.1) hr1_0 At1006).mono fun _ _ h => ⟨_, h.1, h.2.below, rfl⟩)) ?_
   refine .mv 3 rfl rfl rfl rfl ?_
   iterate 2 refine .on rfl (fun a w hS hI hp => does_val (x_extract rfl (hp.V 4 rfl rfl) rfl) rfl) ?_
   refine .asg 5 rfl rfl rfl rfl ?_
   refine .asg 6 rfl rfl rfl rfl ?_
   exact .nil
  clear hS
  intro at1007 w1008 hS hI hp
  have hBw1008_w := hI.1
  have hBw1008_wL1 := hI.2.1
  have hBw1008_w1004 := hI.2.2
  replace hS := ((((hS.nil).cons (hS.get 4 rfl)).cons (hS.get 3 rfl)).cons (hS.get 2 rfl)).cons (hS.get 1 rfl)
  have hv8 : sl _ 8 = .int .i64 t1006_1 := hp 7 (by decide)
  have hv9 : sl _ 9 = .bool t1006_2 := hp 8 (by decide)
  have hBw1008_w1008 := Below.refl w1008.heap.size w1008
  have hS := hS.cons hv8
  have hS := hS.cons hv9
  clear hp hI hv8 hv9
  refine hK1005 _ _ ?_
  (try clear hK1005 K1005)
  refine wp_seq_k (fun K1009 hK1009 => ?_)
  refine wp_block ?_
  refine wp_seq_k (fun K1010 hK1010 => ?_)
  refine reg_seq (N := 81) (bs := [(9, .bool t1006_2), (8, .int .i64 t1006_1), (0, .slice AL1_0 y1_0.length CL1_0), (1, .int .i64 x1_1), (6, .slice AL1_6 y1_6.length CL1_6), (7, .int .i64 x1_7)]) (I := fun x => Below w.heap.size w x ∧ Below wL1.heap.size wL1 x ∧ Below w1008.heap.size w1008 x) (ps := [IsV (.slice AL1_6 y1_6.length CL1_6), VI (y1_6.length : Int), VB (decide ((y1_6.length : Int) = 8)), VB (decide ((y1_6.length : Int) = 8))]) (by kernel_rfl) ?_ ?_ rfl hS ⟨hBw1008_w, hBw1008_wL1, hBw1008_w1008⟩ ?_ ?_
  ·exact fun x y hI hb => ⟨below_step hI.1 hb, below_step hI.2.1 hb, below_step hI.2.2 hb⟩
  ·exact .v (.v (.v (.v (.nil))))
  ·refine .ms 4 rfl rfl rfl ?_
   refine .on rfl (fun a w hS hI hp => does_val (x_len (e := 26) rfl (by kernel_rfl) (hp.V 0 rfl rfl)) rfl) ?_
   refine .on rfl (fun a w hS hI hp => does_val (x_bin rfl (hp.V 1 rfl rfl) (rfl) (b_eql _ _ _ _ _ _)) rfl) ?_
   refine .asg 2 rfl rfl rfl rfl ?_
   exact .nil
  clear hS
  intro at1011 w1012 hS hI hp
  have hBw1012_w := hI.1
  have hBw1012_wL1 := hI.2.1
  have hBw1012_w1008 := hI.2.2
  have hv31 : sl _ 31 = .bool (decide ((y1_6.length : Int) = 8)) := hp 3 (by decide)
  have hBw1012_w1012 := Below.refl w1012.heap.size w1012
  have hS := hS.cons hv31
  clear hp hI hv31
  refine hK1010 _ _ ?_
  (try clear hK1010 K1010)
  refine wp_cond_false ((hS.get 0 rfl).trans (bF (decide_eq_false c4))) ?_
  refine wp_seq_k (fun K1013 hK1013 => ?_)
  refine reg_seq (N := 81) (bs := [(31, .bool (decide ((y1_6.length : Int) = 8))), (9, .bool t1006_2), (8, .int .i64 t1006_1), (0, .slice AL1_0 y1_0.length CL1_0), (1, .int .i64 x1_1), (6, .slice AL1_6 y1_6.length CL1_6), (7, .int .i64 x1_7)]) (I := fun x => Below w.heap.size w x ∧ Below wL1.heap.size wL1 x ∧ Below w1012.heap.size w1012 x) (ps := [VB t1006_2, VB (!t1006_2), VB (!t1006_2), VI t1006_1, IsV (.slice AL1_0 y1_0.length CL1_0), VI (y1_0.length : Int), VI x1_1, VI (wrap64 ((y1_0.length : Int) - x1_1)), VI (wrap64 ((wrap64 ((y1_0.length : Int) - x1_1)) - 4)), VB (decide (t1006_1 > (wrap64 ((wrap64 ((y1_0.length : Int) - x1_1)) - 4)))), VB (decide (t1006_1 > (wrap64 ((wrap64 ((y1_0.length : Int) - x1_1)) - 4)))), VB (decide (t1006_1 > (wrap64 ((wrap64 ((y1_0.length : Int) - x1_1)) - 4))))]) (by kernel_rfl) ?_ ?_ rfl hS ⟨hBw1012_w, hBw1012_wL1, hBw1012_w1012⟩ ?_ ?_
  ·exact fun x y hI hb => ⟨below_step hI.1 hb, below_step hI.2.1 hb, below_step hI.2.2 hb⟩
  ·exact .v (.v (.v (.v (.v (.v (.v (.v (.v (.v (.v (.v (.nil))))))))))))
  ·refine .ms 1 rfl rfl rfl ?_
   refine .on rfl (fun a w hS hI hp => does_val (x_not rfl (hp.V 0 rfl rfl)) rfl) ?_
   refine .mv 1 rfl rfl rfl rfl ?_
   refine .oy 2 38 rfl rfl rfl rfl rfl ((congrArg (!·) c5)) (fun a w hS hI hp => does_val (x_move rfl (hS.get 2 rfl)) rfl) ?_
   refine .oy 2 38 rfl rfl rfl rfl rfl ((congrArg (!·) c5)) (fun a w hS hI hp => does_val (x_move rfl (hS.get 3 rfl)) rfl) ?_
   refine .oy 2 38 rfl rfl rfl rfl rfl ((congrArg (!·) c5)) (fun a w hS hI hp => does_val (x_len (e := 5) rfl (by kernel_rfl) (hp.V 4 rfl rfl)) rfl) ?_
   refine .oy 2 38 rfl rfl rfl rfl rfl ((congrArg (!·) c5)) (fun a w hS hI hp => does_val (x_move rfl (hS.get 4 rfl)) rfl) ?_
   refine .oy 2 38 rfl rfl rfl rfl rfl ((congrArg (!·) c5)) (fun a w hS hI hp => does_val (x_bin rfl (hp.V 5 rfl rfl) (hp.V 6 rfl rfl) (b_sub _ _ _ _ _)) rfl) ?_
   refine .oy 2 38 rfl rfl rfl rfl rfl ((congrArg (!·) c5)) (fun a w hS hI hp => does_val (x_bin rfl (hp.V 7 rfl rfl) (rfl) (b_sub _ _ _ _ _)) rfl) ?_
   refine .oy 2 38 rfl rfl rfl rfl rfl ((congrArg (!·) c5)) (fun a w hS hI hp => does_val (x_bin rfl (hp.V 3 rfl rfl) (hp.V 8 rfl rfl) (b_gtr _ _ _ _ _ _)) rfl) ?_
   refine .on rfl (fun a w hS hI hp => does_val (x_pickF rfl ((hp.V 2 rfl rfl).trans (bF (congrArg (!·) c5))) (hp.V 9 rfl rfl)) rfl) ?_
   refine .asg 10 rfl rfl rfl rfl ?_
   exact .nil
  clear hS
  intro at1014 w1015 hS hI hp
  have hBw1015_w := hI.1
  have hBw1015_wL1 := hI.2.1
  have hBw1015_w1012 := hI.2.2
  replace hS := (((((hS.nil).cons (hS.get 6 rfl)).cons (hS.get 5 rfl)).cons (hS.get 4 rfl)).cons (hS.get 3 rfl)).cons (hS.get 2 rfl)
  have hv35 : sl _ 35 = .bool (decide (t1006_1 > (wrap64 ((wrap64 ((y1_0.length : Int) - x1_1)) - 4)))) := hp 11 (by decide)
  have hBw1015_w1015 := Below.refl w1015.heap.size w1015
  have hS := hS.cons hv35
  clear hp hI hv35
  refine hK1013 _ _ ?_
  (try clear hK1013 K1013)
  refine wp_cond_false ((hS.get 0 rfl).trans (bF (decide_eq_false c6))) ?_
  refine wp_seq_k (fun K1016 hK1016 => ?_)
  refine reg_seq (N := 81) (bs := [(35, .bool (decide (t1006_1 > (wrap64 ((wrap64 ((y1_0.length : Int) - x1_1)) - 4))))), (8, .int .i64 t1006_1), (0, .slice AL1_0 y1_0.length CL1_0), (1, .int .i64 x1_1), (6, .slice AL1_6 y1_6.length CL1_6), (7, .int .i64 x1_7)]) (I := fun x => Below w.heap.size w x ∧ Below wL1.heap.size wL1 x ∧ Below w1015.heap.size w1015 x) (ps := [VI t1006_1, VI (Int.tmod t1006_1 2), VB (!decide ((Int.tmod t1006_1 2) = 0)), VB (!decide ((Int.tmod t1006_1 2) = 0))]) (by kernel_rfl) ?_ ?_ rfl hS ⟨hBw1015_w, hBw1015_wL1, hBw1015_w1015⟩ ?_ ?_
  ·exact fun x y hI hb => ⟨below_step hI.1 hb, below_step hI.2.1 hb, below_step hI.2.2 hb⟩
  ·exact .v (.v (.v (.v (.nil))))
  ·refine .ms 1 rfl rfl rfl ?_
   refine .on rfl (fun a w hS hI hp => does_val (x_bin rfl (hp.V 0 rfl rfl) (rfl) (b_rem _ _ _ _ _ _ (by decide))) rfl) ?_
   refine .on rfl (fun a w hS hI hp => does_val (x_bin rfl (hp.V 1 rfl rfl) (rfl) (b_neq _ _ _ _ _ _)) rfl) ?_
   refine .asg 2 rfl rfl rfl rfl ?_
   exact .nil
  clear hS
  intro at1017 w1018 hS hI hp
  have hBw1018_w := hI.1
  have hBw1018_wL1 := hI.2.1
  have hBw1018_w1015 := hI.2.2
  replace hS := (((((hS.nil).cons (hS.get 5 rfl)).cons (hS.get 4 rfl)).cons (hS.get 3 rfl)).cons (hS.get 2 rfl)).cons (hS.get 1 rfl)
  have hv47 : sl _ 47 = .bool (!decide ((Int.tmod t1006_1 2) = 0)) := hp 3 (by decide)
  have hBw1018_w1018 := Below.refl w1018.heap.size w1018
  have hS := hS.cons hv47
  clear hp hI hv47
  refine hK1016 _ _ ?_
  (try clear hK1016 K1016)
  refine wp_cond_true ((hS.get 0 rfl).trans (bT (congrArg (!·) (decide_eq_false c7)))) ?_
  replace hS := (((((hS.nil).cons (hS.get 4 rfl)).cons (hS.get 3 rfl)).cons (hS.get 2 rfl)).cons (hS.get 1 rfl)).cons (hS.get 0 rfl)
  refine reg_seq (N := 81) (bs := [(47, .bool (!decide ((Int.tmod t1006_1 2) = 0))), (8, .int .i64 t1006_1), (0, .slice AL1_0 y1_0.length CL1_0), (1, .int .i64 x1_1), (6, .slice AL1_6 y1_6.length CL1_6)]) (I := fun x => Below w.heap.size w x ∧ Below wL1.heap.size wL1 x ∧ Below w1018.heap.size w1018 x) (ps := [VI 4]) (by kernel_rfl) ?_ ?_ rfl hS ⟨hBw1018_w, hBw1018_wL1, hBw1018_w1018⟩ ?_ ?_
  ·exact fun x y hI hb => ⟨below_step hI.1 hb, below_step hI.2.1 hb, below_step hI.2.2 hb⟩
  ·exact .v (.nil)
  ·refine .on rfl (fun a w hS hI hp => does_val (x_assign rfl (rfl)) rfl) ?_
   exact .nil
  clear hS
  intro at1019 w1020 hS hI hp
  have hBw1020_w := hI.1
  have hBw1020_wL1 := hI.2.1
  have hBw1020_w1018 := hI.2.2
  replace hS := ((((hS.nil).cons (hS.get 4 rfl)).cons (hS.get 3 rfl)).cons (hS.get 2 rfl)).cons (hS.get 1 rfl)
  have hv7 : sl _ 7 = .int .i64 4 := hp 0 (by decide)
  have hBw1020_w1020 := Below.refl w1020.heap.size w1020
  have hS := hS.cons hv7
  clear hp hI hv7
  refine hK1009 _ _ ?_
  (try clear hK1009 K1009)
  refine wp_seq_k (fun K1021 hK1021 => ?_)
  refine wp_seq_k (fun K1022 hK1022 => ?_)
  refine reg_seq (N := 81) (bs := [(7, .int .i64 4), (8, .int .i64 t1006_1), (0, .slice AL1_0 y1_0.length CL1_0), (1, .int .i64 x1_1), (6, .slice AL1_6 y1_6.length CL1_6)]) (I := fun x => Below w.heap.size w x ∧ Below wL1.heap.size wL1 x ∧ Below w1020.heap.size w1020 x) (ps := [VI 4, VB (!decide (4 = 0))]) (by kernel_rfl) ?_ ?_ rfl hS ⟨hBw1020_w, hBw1020_wL1, hBw1020_w1020⟩ ?_ ?_
  ·exact fun x y hI hb => ⟨below_step hI.1 hb, below_step hI.2.1 hb, below_step hI.2.2 hb⟩
  ·exact .v (.v (.nil))
  ·refine .ms 0 rfl rfl rfl ?_
   refine .on rfl (fun a w hS hI hp => does_val (x_bin rfl (hp.V 0 rfl rfl) (rfl) (b_neq _ _ _ _ _ _)) rfl) ?_
   exact .nil
  clear hS
  intro at1023 w1024 hS hI hp
  have hBw1024_w := hI.1
  have hBw1024_wL1 := hI.2.1
  have hBw1024_w1020 := hI.2.2
  have hv52 : sl _ 52 = .bool (!decide (4 = 0)) := hp 1 (by decide)
  have hBw1024_w1024 := Below.refl w1024.heap.size w1024
  have hS := hS.cons hv52
  clear hp hI hv52
  refine hK1022 _ _ ?_
  (try clear hK1022 K1022)
  refine wp_cond_true ((hS.get 0 rfl).trans (bT (congrArg (!·) (decide_eq_false c8)))) ?_
  refine wp_exit ?_
  (try simp only [Exit.then, Exit.inBlock, reduceIte])
  refine hK15 _ _ ?_
  (try clear hK15 K15)
  refine wp_seq_k (fun K1025 hK1025 => ?_)
  refine wp_seq_k (fun K1026 hK1026 => ?_)
  refine reg_seq (N := 81) (bs := [(52, .bool (!decide (4 = 0))), (7, .int .i64 4), (8, .int .i64 t1006_1), (0, .slice AL1_0 y1_0.length CL1_0), (1, .int .i64 x1_1), (6, .slice AL1_6 y1_6.length CL1_6)]) (I := fun x => Below w.heap.size w x ∧ Below wL1.heap.size wL1 x ∧ Below w1024.heap.size w1024 x) (ps := [VI 4, VB (!decide (4 = 0))]) (by kernel_rfl) ?_ ?_ rfl hS ⟨hBw1024_w, hBw1024_wL1, hBw1024_w1024⟩ ?_ ?_
  ·exact fun x y hI hb => ⟨below_step hI.1 hb, below_step hI.2.1 hb, below_step hI.2.2 hb⟩
  ·exact .v (.v (.nil))
  ·refine .ms 1 rfl rfl rfl ?_
   refine .on rfl (fun a w hS hI hp => does_val (x_bin rfl (hp.V 0 rfl rfl) (rfl) (b_neq _ _ _ _ _ _)) rfl) ?_
   exact .nil
  clear hS
  intro at1027 w1028 hS hI hp
  have hBw1028_w := hI.1
  have hBw1028_wL1 := hI.2.1
  have hBw1028_w1024 := hI.2.2
  replace hS := ((hS.nil).cons (hS.get 5 rfl)).cons (hS.get 1 rfl)
  have hv78 : sl _ 78 = .bool (!decide (4 = 0)) := hp 1 (by decide)
  have hBw1028_w1028 := Below.refl w1028.heap.size w1028
  have hS := hS.cons hv78
  clear hp hI hv78
  refine hK1026 _ _ ?_
  (try clear hK1026 K1026)
  refine wp_cond_true ((hS.get 0 rfl).trans (bT (congrArg (!·) (decide_eq_false c8)))) ?_
  refine wp_seq_k (fun K1029 hK1029 => ?_)
  refine reg_seq (N := 81) (bs := [(78, .bool (!decide (4 = 0))), (7, .int .i64 4), (6, .slice AL1_6 y1_6.length CL1_6)]) (I := fun x => Below w.heap.size w x ∧ Below wL1.heap.size wL1 x ∧ Below w1028.heap.size w1028 x) (ps := [VI 4, IsV (.slice none 0 0), VI 4]) (by kernel_rfl) ?_ ?_ rfl hS ⟨hBw1028_w, hBw1028_wL1, hBw1028_w1028⟩ ?_ ?_
  ·exact fun x y hI hb => ⟨below_step hI.1 hb, below_step hI.2.1 hb, below_step hI.2.2 hb⟩
  ·exact .v (.v (.v (.nil)))
  ·refine .ms 1 rfl rfl rfl ?_
   refine .on rfl (fun a w hS hI hp => does_val (x_assign rfl (rfl)) rfl) ?_
   refine .asg 0 rfl rfl rfl rfl ?_
   exact .nil
  clear hS
  intro at1030 w1031 hS hI hp
  have hBw1031_w := hI.1
  have hBw1031_wL1 := hI.2.1
  have hBw1031_w1028 := hI.2.2
  replace hS := hS.nil
  have hv4 : sl _ 4 = .slice none 0 0 := hp 1 (by decide)
  have hv5 : sl _ 5 = .int .i64 4 := hp 2 (by decide)
  have hBw1031_w1031 := Below.refl w1031.heap.size w1031
  have hS := hS.cons hv4
  have hS := hS.cons hv5
  clear hp hI hv4 hv5
  refine hK1029 _ _ ?_
  (try clear hK1029 K1029)
  refine wp_ret ?_
  (try simp only [Exit.then, Exit.inBlock, Exit.jump, Exit.noGoto])
  exact bodyPost_ret (v := .tuple #[.slice none 0 0, .int .i64 4]) (results_list (rs := [.tmp 4, .tmp 5]) rfl (by simp) (Vals.at (hS.get 1 rfl) (Vals.at (hS.get 0 rfl) .nil))) hS.nodef ⟨.slice none 0 0, rfl, Kd.R_nil _ _ _ _ _, hBw1031_w⟩
 rw [if_pos c8] at H
 obtain ⟨t1026, At1026, H⟩ := Option.bind_eq_some_iff.mp H
 obtain ⟨t1026_1, t1026_2⟩ := t1026
 (try dsimp only at H)
 by_cases c9 : 0 ≤ (wrap64 (x1_1 + 4))
 rotate_left
 ·rw [if_neg c9] at H
  exact absurd H (by simp)
 rw [if_pos c9] at H
 by_cases c10 : (wrap64 (x1_1 + 4)) ≤ (wrap64 ((wrap64 (x1_1 + 4)) + t1006_1))
 rotate_left
 ·rw [if_neg c10] at H
  exact absurd H (by simp)
 rw [if_pos c10] at H
 by_cases c11 : (wrap64 ((wrap64 (x1_1 + 4)) + t1006_1)) ≤ (y1_0.length : Int)
 rotate_left
 ·rw [if_neg c11] at H
  exact absurd H (by simp)
 rw [if_pos c11] at H
 by_cases c12 : (y1_6.length + [(⟨t1026_1, strOfNums ((y1_0.take (wrap64 ((wrap64 (x1_1 + 4)) + t1006_1) : Int).toNat).drop (wrap64 (x1_1 + 4) : Int).toNat)⟩ : S26)].length) * 24 ≤ 140737488355328
 rotate_left
 ·rw [if_neg c12] at H
  exact absurd H (by simp)
 rw [if_pos c12] at H
 have hBwL1_wL1 := Below.refl wL1.heap.size wL1
 refine wp_seq_k (fun K1001 hK1001 => ?_)
 refine wp_seq_k (fun K1002 hK1002 => ?_)
 refine reg_seq (N := 81) (bs := [(0, .slice AL1_0 y1_0.length CL1_0), (1, .int .i64 x1_1), (6, .slice AL1_6 y1_6.length CL1_6), (7, .int .i64 x1_7)]) (I := fun x => Below w.heap.size w x ∧ Below wL1.heap.size wL1 x) (ps := [VI x1_1, IsV (.slice AL1_0 y1_0.length CL1_0), VI (y1_0.length : Int), VB (decide (x1_1 < (y1_0.length : Int)))]) (by kernel_rfl) ?_ ?_ rfl hS ⟨hBwL1_w, hBwL1_wL1⟩ ?_ ?_
 ·exact fun x y hI hb => ⟨below_step hI.1 hb, below_step hI.2 hb⟩
 ·exact .v (.v (.v (.v (.nil))))
 ·refine .ms 1 rfl rfl rfl ?_
  refine .ms 0 rfl rfl rfl ?_
  refine .on rfl (fun a w hS hI hp => does_val (x_len (e := 5) rfl (by kernel_rfl) (hp.V 1 rfl rfl)) rfl) ?_
  refine .on rfl (fun a w hS hI hp => does_val (x_bin rfl (hp.V 0 rfl rfl) (hp.V 2 rfl rfl) (b_lss _ _ _ _ _ _)) rfl) ?_
  exact .nil
 clear hS
 intro at1003 w1004 hS hI hp
 have hBw1004_w := hI.1
 have hBw1004_wL1 := hI.2
 have hv23 : sl _ 23 = .bool (decide (x1_1 < (y1_0.length : Int))) := hp 3 (by decide)
 have hBw1004_w1004 := Below.refl w1004.heap.size w1004
 have hS := hS.cons hv23
 clear hp hI hv23
 refine hK1002 _ _ ?_
 (try clear hK1002 K1002)
 refine wp_cond_true ((hS.get 0 rfl).trans (bT (decide_eq_true c3))) ?_
 refine wp_skip ?_
 refine hK1001 _ _ ?_
 (try clear hK1001 K1001)
 refine wp_block ?_
 refine wp_seq_k (fun K1005 hK1005 => ?_)
 refine reg_seq (N := 81) (bs := [(23, .bool (decide (x1_1 < (y1_0.length : Int)))), (0, .slice AL1_0 y1_0.length CL1_0), (1, .int .i64 x1_1), (6, .slice AL1_6 y1_6.length CL1_6), (7, .int .i64 x1_7)]) (I := fun x => Below w.heap.size w x ∧ Below wL1.heap.size wL1 x ∧ Below w1004.heap.size w1004 x) (ps := [IsV (.slice AL1_0 y1_0.length CL1_0), VI x1_1, VI (wrap64 (x1_1 + 2)), IsV (.tuple #[.int .i64 t1006_1, .bool t1006_2]), IsV (.tuple #[.int .i64 t1006_1, .bool t1006_2]), VI t1006_1, VB t1006_2, VI t1006_1, VB t1006_2]) (by kernel_rfl) ?_ ?_ rfl hS ⟨hBw1004_w, hBw1004_wL1, hBw1004_w1004⟩ ?_ ?_
 ·exact fun x y hI hb => ⟨below_step hI.1 hb, below_step hI.2.1 hb, below_step hI.2.2 hb⟩
 ·exact .v (.v (.v (.v (.v (.v (.v (.v (.v (.nil)))))))))
 ·refine .ms 1 rfl rfl rfl ?_
  refine .ms 2 rfl rfl rfl ?_
  refine .on rfl (fun a w hS hI hp => does_val (x_bin rfl (hp.V 1 rfl rfl) (rfl) (b_add _ _ _ _ _)) rfl) ?_
  refine .on rfl (fun a w hS hI hp => does_call (by kernel_rfl) (ar3 (hp.V 0 rfl rfl) (hp.V 2 rfl rfl) (rfl)) ((octets_Get.calls k _ _ y1_0 (wrap64 (x1_1 + 2)) 2 t1006_1 t1006_2 _ (Kd.C_below hcL1_0 hI.1) hr1_0 At1006).mono fun _ _ h => ⟨_, h.1, h.2.below, rfl⟩)) ?_
  refine .mv 3 rfl rfl rfl rfl ?_
  iterate 2 refine .on rfl (fun a w hS hI hp => does_val (x_extract rfl (hp.V 4 rfl rfl) rfl) rfl) ?_
  refine .asg 5 rfl rfl rfl rfl ?_
  refine .asg 6 rfl rfl rfl rfl ?_
  exact .nil
 clear hS
 intro at1007 w1008 hS hI hp
 have hBw1008_w := hI.1
 have hBw1008_wL1 := hI.2.1
 have hBw1008_w1004 := hI.2.2
 replace hS := ((((hS.nil).cons (hS.get 4 rfl)).cons (hS.get 3 rfl)).cons (hS.get 2 rfl)).cons (hS.get 1 rfl)
 have hv8 : sl _ 8 = .int .i64 t1006_1 := hp 7 (by decide)
 have hv9 : sl _ 9 = .bool t1006_2 := hp 8 (by decide)
 have hBw1008_w1008 := Below.refl w1008.heap.size w1008
 have hS := hS.cons hv8
 have hS := hS.cons hv9
 clear hp hI hv8 hv9
 refine hK1005 _ _ ?_
 (try clear hK1005 K1005)
 refine wp_seq_k (fun K1009 hK1009 => ?_)
 refine wp_block ?_
 refine wp_seq_k (fun K1010 hK1010 => ?_)
 refine reg_seq (N := 81) (bs := [(9, .bool t1006_2), (8, .int .i64 t1006_1), (0, .slice AL1_0 y1_0.length CL1_0), (1, .int .i64 x1_1), (6, .slice AL1_6 y1_6.length CL1_6), (7, .int .i64 x1_7)]) (I := fun x => Below w.heap.size w x ∧ Below wL1.heap.size wL1 x ∧ Below w1008.heap.size w1008 x) (ps := [IsV (.slice AL1_6 y1_6.length CL1_6), VI (y1_6.length : Int), VB (decide ((y1_6.length : Int) = 8)), VB (decide ((y1_6.length : Int) = 8))]) (by kernel_rfl) ?_ ?_ rfl hS ⟨hBw1008_w, hBw1008_wL1, hBw1008_w1008⟩ ?_ ?_
 ·exact fun x y hI hb => ⟨below_step hI.1 hb, below_step hI.2.1 hb, below_step hI.2.2 hb⟩
 ·exact .v (.v (.v (.v (.nil))))
 ·refine .ms 4 rfl rfl rfl ?_
  refine .on rfl (fun a w hS hI hp => does_val (x_len (e := 26) rfl (by kernel_rfl) (hp.V 0 rfl rfl)) rfl) ?_
  refine .on rfl (fun a w hS hI hp => does_val (x_bin rfl (hp.V 1 rfl rfl) (rfl) (b_eql _ _ _ _ _ _)) rfl) ?_
  refine .asg 2 rfl rfl rfl rfl ?_
  exact .nil
 clear hS
 intro at1011 w1012 hS hI hp
 have hBw1012_w := hI.1
 have hBw1012_wL1 := hI.2.1
 have hBw1012_w1008 := hI.2.2
 have hv31 : sl _ 31 = .bool (decide ((y1_6.length : Int) = 8)) := hp 3 (by decide)
 have hBw1012_w1012 := Below.refl w1012.heap.size w1012
 have hS := hS.cons hv31
 clear hp hI hv31
 refine hK1010 _ _ ?_
 (try clear hK1010 K1010)
 refine wp_cond_false ((hS.get 0 rfl).trans (bF (decide_eq_false c4))) ?_
 refine wp_seq_k (fun K1013 hK1013 => ?_)
 refine reg_seq (N := 81) (bs := [(31, .bool (decide ((y1_6.length : Int) = 8))), (9, .bool t1006_2), (8, .int .i64 t1006_1), (0, .slice AL1_0 y1_0.length CL1_0), (1, .int .i64 x1_1), (6, .slice AL1_6 y1_6.length CL1_6), (7, .int .i64 x1_7)]) (I := fun x => Below w.heap.size w x ∧ Below wL1.heap.size wL1 x ∧ Below w1012.heap.size w1012 x) (ps := [VB t1006_2, VB (!t1006_2), VB (!t1006_2), VI t1006_1, IsV (.slice AL1_0 y1_0.length CL1_0), VI (y1_0.length : Int), VI x1_1, VI (wrap64 ((y1_0.length : Int) - x1_1)), VI (wrap64 ((wrap64 ((y1_0.length : Int) - x1_1)) - 4)), VB (decide (t1006_1 > (wrap64 ((wrap64 ((y1_0.length : Int) - x1_1)) - 4)))), VB (decide (t1006_1 > (wrap64 ((wrap64 ((y1_0.length : Int) - x1_1)) - 4)))), VB (decide (t1006_1 > (wrap64 ((wrap64 ((y1_0.length : Int) - x1_1)) - 4))))]) (by kernel_rfl) ?_ ?_ rfl hS ⟨hBw1012_w, hBw1012_wL1, hBw1012_w1012⟩ ?_ ?_
 ·exact fun x y hI hb => ⟨below_step hI.1 hb, below_step hI.2.1 hb, below_step hI.2.2 hb⟩
 ·exact .v (.v (.v (.v (.v (.v (.v (.v (.v (.v (.v (.v (.nil))))))))))))
 ·refine .ms 1 rfl rfl rfl ?_
  refine .on rfl (fun a w hS hI hp => does_val (x_not rfl (hp.V 0 rfl rfl)) rfl) ?_
  refine .mv 1 rfl rfl rfl rfl ?_
  refine .oy 2 38 rfl rfl rfl rfl rfl ((congrArg (!·) c5)) (fun a w hS hI hp => does_val (x_move rfl (hS.get 2 rfl)) rfl) ?_
  refine .oy 2 38 rfl rfl rfl rfl rfl ((congrArg (!·) c5)) (fun a w hS hI hp => does_val (x_move rfl (hS.get 3 rfl)) rfl) ?_
  refine .oy 2 38 rfl rfl rfl rfl rfl ((congrArg (!·) c5)) (fun a w hS hI hp => does_val (x_len (e := 5) rfl (by kernel_rfl) (hp.V 4 rfl rfl)) rfl) ?_
  refine .oy 2 38 rfl rfl rfl rfl rfl ((congrArg (!·) c5)) (fun a w hS hI hp => does_val (x_move rfl (hS.get 4 rfl)) rfl) ?_
  refine .oy 2 38 rfl rfl rfl rfl rfl ((congrArg (!·) c5)) (fun a w hS hI hp => does_val (x_bin rfl (hp.V 5 rfl rfl) (hp.V 6 rfl rfl) (b_sub _ _ _ _ _)) rfl) ?_
  refine .oy 2 38 rfl rfl rfl rfl rfl ((congrArg (!·) c5)) (fun a w hS hI hp => does_val (x_bin rfl (hp.V 7 rfl rfl) (rfl) (b_sub _ _ _ _ _)) rfl) ?_
  refine .oy 2 38 rfl rfl rfl rfl rfl ((congrArg (!·) c5)) (fun a w hS hI hp => does_val (x_bin rfl (hp.V 3 rfl rfl) (hp.V 8 rfl rfl) (b_gtr _ _ _ _ _ _)) rfl) ?_
  refine .on rfl (fun a w hS hI hp => does_val (x_pickF rfl ((hp.V 2 rfl rfl).trans (bF (congrArg (!·) c5))) (hp.V 9 rfl rfl)) rfl) ?_
  refine .asg 10 rfl rfl rfl rfl ?_
  exact .nil
 clear hS
 intro at1014 w1015 hS hI hp
 have hBw1015_w := hI.1
 have hBw1015_wL1 := hI.2.1
 have hBw1015_w1012 := hI.2.2
 replace hS := (((((hS.nil).cons (hS.get 6 rfl)).cons (hS.get 5 rfl)).cons (hS.get 4 rfl)).cons (hS.get 3 rfl)).cons (hS.get 2 rfl)
 have hv35 : sl _ 35 = .bool (decide (t1006_1 > (wrap64 ((wrap64 ((y1_0.length : Int) - x1_1)) - 4)))) := hp 11 (by decide)
 have hBw1015_w1015 := Below.refl w1015.heap.size w1015
 have hS := hS.cons hv35
 clear hp hI hv35
 refine hK1013 _ _ ?_
 (try clear hK1013 K1013)
 refine wp_cond_false ((hS.get 0 rfl).trans (bF (decide_eq_false c6))) ?_
 refine wp_seq_k (fun K1016 hK1016 => ?_)
 refine reg_seq (N := 81) (bs := [(35, .bool (decide (t1006_1 > (wrap64 ((wrap64 ((y1_0.length : Int) - x1_1)) - 4))))), (8, .int .i64 t1006_1), (0, .slice AL1_0 y1_0.length CL1_0), (1, .int .i64 x1_1), (6, .slice AL1_6 y1_6.length CL1_6), (7, .int .i64 x1_7)]) (I := fun x => Below w.heap.size w x ∧ Below wL1.heap.size wL1 x ∧ Below w1015.heap.size w1015 x) (ps := [VI t1006_1, VI (Int.tmod t1006_1 2), VB (!decide ((Int.tmod t1006_1 2) = 0)), VB (!decide ((Int.tmod t1006_1 2) = 0))]) (by kernel_rfl) ?_ ?_ rfl hS ⟨hBw1015_w, hBw1015_wL1, hBw1015_w1015⟩ ?_ ?_
 ·exact fun x y hI hb => ⟨below_step hI.1 hb, below_step hI.2.1 hb, below_step hI.2.2 hb⟩
 ·exact .v (.v (.v (.v (.nil))))
 ·refine .ms 1 rfl rfl rfl ?_
  refine .on rfl (fun a w hS hI hp => does_val (x_bin rfl (hp.V 0 rfl rfl) (rfl) (b_rem _ _ _ _ _ _ (by decide))) rfl) ?_
  refine .on rfl (fun a w hS hI hp => does_val (x_bin rfl (hp.V 1 rfl rfl) (rfl) (b_neq _ _ _ _ _ _)) rfl) ?_
  refine .asg 2 rfl rfl rfl rfl ?_
  exact .nil
 clear hS
 intro at1017 w1018 hS hI hp
 have hBw1018_w := hI.1
 have hBw1018_wL1 := hI.2.1
 have hBw1018_w1015 := hI.2.2
 replace hS := (((((hS.nil).cons (hS.get 5 rfl)).cons (hS.get 4 rfl)).cons (hS.get 3 rfl)).cons (hS.get 2 rfl)).cons (hS.get 1 rfl)
 have hv47 : sl _ 47 = .bool (!decide ((Int.tmod t1006_1 2) = 0)) := hp 3 (by decide)
 have hBw1018_w1018 := Below.refl w1018.heap.size w1018
 have hS := hS.cons hv47
 clear hp hI hv47
 refine hK1016 _ _ ?_
 (try clear hK1016 K1016)
 refine wp_cond_true ((hS.get 0 rfl).trans (bT (congrArg (!·) (decide_eq_false c7)))) ?_
 replace hS := (((((hS.nil).cons (hS.get 4 rfl)).cons (hS.get 3 rfl)).cons (hS.get 2 rfl)).cons (hS.get 1 rfl)).cons (hS.get 0 rfl)
 refine reg_seq (N := 81) (bs := [(47, .bool (!decide ((Int.tmod t1006_1 2) = 0))), (8, .int .i64 t1006_1), (0, .slice AL1_0 y1_0.length CL1_0), (1, .int .i64 x1_1), (6, .slice AL1_6 y1_6.length CL1_6)]) (I := fun x => Below w.heap.size w x ∧ Below wL1.heap.size wL1 x ∧ Below w1018.heap.size w1018 x) (ps := [VI 4]) (by kernel_rfl) ?_ ?_ rfl hS ⟨hBw1018_w, hBw1018_wL1, hBw1018_w1018⟩ ?_ ?_
 ·exact fun x y hI hb => ⟨below_step hI.1 hb, below_step hI.2.1 hb, below_step hI.2.2 hb⟩
 ·exact .v (.nil)
 ·refine .on rfl (fun a w hS hI hp => does_val (x_assign rfl (rfl)) rfl) ?_
  exact .nil
 clear hS
 intro at1019 w1020 hS hI hp
 have hBw1020_w := hI.1
 have hBw1020_wL1 := hI.2.1
 have hBw1020_w1018 := hI.2.2
 replace hS := ((((hS.nil).cons (hS.get 4 rfl)).cons (hS.get 3 rfl)).cons (hS.get 2 rfl)).cons (hS.get 1 rfl)
 have hv7 : sl _ 7 = .int .i64 4 := hp 0 (by decide)
 have hBw1020_w1020 := Below.refl w1020.heap.size w1020
 have hS := hS.cons hv7
 clear hp hI hv7
 refine hK1009 _ _ ?_
 (try clear hK1009 K1009)
 refine wp_seq_k (fun K1021 hK1021 => ?_)
 refine wp_seq_k (fun K1022 hK1022 => ?_)
 refine reg_seq (N := 81) (bs := [(7, .int .i64 4), (8, .int .i64 t1006_1), (0, .slice AL1_0 y1_0.length CL1_0), (1, .int .i64 x1_1), (6, .slice AL1_6 y1_6.length CL1_6)]) (I := fun x => Below w.heap.size w x ∧ Below wL1.heap.size wL1 x ∧ Below w1020.heap.size w1020 x) (ps := [VI 4, VB (!decide (4 = 0))]) (by kernel_rfl) ?_ ?_ rfl hS ⟨hBw1020_w, hBw1020_wL1, hBw1020_w1020⟩ ?_ ?_
 ·exact fun x y hI hb => ⟨below_step hI.1 hb, below_step hI.2.1 hb, below_step hI.2.2 hb⟩
 ·exact .v (.v (.nil))
 ·refine .ms 0 rfl rfl rfl ?_
  refine .on rfl (fun a w hS hI hp => does_val (x_bin rfl (hp.V 0 rfl rfl) (rfl) (b_neq _ _ _ _ _ _)) rfl) ?_
  exact .nil
 clear hS
 intro at1023 w1024 hS hI hp
 have hBw1024_w := hI.1
 have hBw1024_wL1 := hI.2.1
 have hBw1024_w1020 := hI.2.2
 have hv52 : sl _ 52 = .bool (!decide (4 = 0)) := hp 1 (by decide)
 have hBw1024_w1024 := Below.refl w1024.heap.size w1024
 have hS := hS.cons hv52
 clear hp hI hv52
 refine hK1022 _ _ ?_
 (try clear hK1022 K1022)
 refine wp_cond_false ((hS.get 0 rfl).trans (bF (congrArg (!·) (decide_eq_true c8)))) ?_
 refine wp_skip ?_
 refine hK1021 _ _ ?_
 (try clear hK1021 K1021)
 refine wp_seq_k (fun K1025 hK1025 => ?_)
 refine reg_seq (N := 81) (bs := [(52, .bool (!decide (4 = 0))), (7, .int .i64 4), (8, .int .i64 t1006_1), (0, .slice AL1_0 y1_0.length CL1_0), (1, .int .i64 x1_1), (6, .slice AL1_6 y1_6.length CL1_6)]) (I := fun x => Below w.heap.size w x ∧ Below wL1.heap.size wL1 x ∧ Below w1024.heap.size w1024 x) (ps := [IsV (.slice AL1_0 y1_0.length CL1_0), VI x1_1, IsV (.tuple #[.int .i64 t1026_1, .bool t1026_2]), IsV (.tuple #[.int .i64 t1026_1, .bool t1026_2]), VI t1026_1, VB t1026_2, VI t1026_1, VB t1026_2]) (by kernel_rfl) ?_ ?_ rfl hS ⟨hBw1024_w, hBw1024_wL1, hBw1024_w1024⟩ ?_ ?_
 ·exact fun x y hI hb => ⟨below_step hI.1 hb, below_step hI.2.1 hb, below_step hI.2.2 hb⟩
 ·exact .v (.v (.v (.v (.v (.v (.v (.v (.nil))))))))
 ·refine .ms 3 rfl rfl rfl ?_
  refine .ms 4 rfl rfl rfl ?_
  refine .on rfl (fun a w hS hI hp => does_call (by kernel_rfl) (ar3 (hp.V 0 rfl rfl) (hp.V 1 rfl rfl) (rfl)) ((octets_Get.calls k _ _ y1_0 x1_1 2 t1026_1 t1026_2 _ (Kd.C_below hcL1_0 hI.1) hr1_0 At1026).mono fun _ _ h => ⟨_, h.1, h.2.below, rfl⟩)) ?_
  refine .mv 2 rfl rfl rfl rfl ?_
  iterate 2 refine .on rfl (fun a w hS hI hp => does_val (x_extract rfl (hp.V 3 rfl rfl) rfl) rfl) ?_
  refine .asg 4 rfl rfl rfl rfl ?_
  refine .asg 5 rfl rfl rfl rfl ?_
  exact .nil
 clear hS
 intro at1027 w1028 hS hI hp
 have hBw1028_w := hI.1
 have hBw1028_wL1 := hI.2.1
 have hBw1028_w1024 := hI.2.2
 replace hS := (((((hS.nil).cons (hS.get 5 rfl)).cons (hS.get 4 rfl)).cons (hS.get 3 rfl)).cons (hS.get 2 rfl)).cons (hS.get 1 rfl)
 have hv10 : sl _ 10 = .int .i64 t1026_1 := hp 6 (by decide)
 have hBw1028_w1028 := Below.refl w1028.heap.size w1028
 have hS := hS.cons hv10
 clear hp hI hv10
 refine hK1025 _ _ ?_
 (try clear hK1025 K1025)
 refine wp_seq_k (fun K1029 hK1029 => ?_)
 refine reg_seq_tail 13 (N := 81) (bs := [(10, .int .i64 t1026_1), (7, .int .i64 4), (8, .int .i64 t1006_1), (0, .slice AL1_0 y1_0.length CL1_0), (1, .int .i64 x1_1), (6, .slice AL1_6 y1_6.length CL1_6)]) (I := fun x => Below w.heap.size w x ∧ Below wL1.heap.size wL1 x ∧ Below w1028.heap.size w1028 x) (ps := [IsV (.slice AL1_6 y1_6.length CL1_6), VI t1026_1, IsV (.slice AL1_0 y1_0.length CL1_0), VI x1_1, VI (wrap64 (x1_1 + 4)), VI x1_1, VI (wrap64 (x1_1 + 4)), VI t1006_1, VI (wrap64 ((wrap64 (x1_1 + 4)) + t1006_1)), IsC (Kd.int .u8) ((y1_0.take (wrap64 ((wrap64 (x1_1 + 4)) + t1006_1) : Int).toNat).drop (wrap64 (x1_1 + 4) : Int).toNat), IsV (.string (strOfNums ((y1_0.take (wrap64 ((wrap64 (x1_1 + 4)) + t1006_1) : Int).toNat).drop (wrap64 (x1_1 + 4) : Int).toNat))), IsV (.agg #[.int .i64 t1026_1, .string (strOfNums ((y1_0.take (wrap64 ((wrap64 (x1_1 + 4)) + t1006_1) : Int).toNat).drop (wrap64 (x1_1 + 4) : Int).toNat))]), IsR k26 26 w1028.heap.size [(⟨t1026_1, strOfNums ((y1_0.take (wrap64 ((wrap64 (x1_1 + 4)) + t1006_1) : Int).toNat).drop (wrap64 (x1_1 + 4) : Int).toNat)⟩ : S26)]]) (by kernel_rfl) ?_ ?_ rfl hS ⟨hBw1028_w, hBw1028_wL1, hBw1028_w1028⟩ ?_ ?_
 ·exact fun x y hI hb => ⟨below_step hI.1 hb, below_step hI.2.1 hb, below_step hI.2.2 hb⟩
 ·exact .v (.v (.v (.v (.v (.v (.v (.v (.v (.cons (Stays.c _ _) (.v (.v (.cons (Stays.r _ _ _ _) (.nil)))))))))))))
 ·refine .ms 5 rfl rfl rfl ?_
  refine .ms 0 rfl rfl rfl ?_
  refine .ms 3 rfl rfl rfl ?_
  refine .ms 4 rfl rfl rfl ?_
  refine .on rfl (fun a w hS hI hp => does_val (x_bin rfl (hp.V 3 rfl rfl) (rfl) (b_add _ _ _ _ _)) rfl) ?_
  refine .ms 4 rfl rfl rfl ?_
  refine .on rfl (fun a w hS hI hp => does_val (x_bin rfl (hp.V 5 rfl rfl) (rfl) (b_add _ _ _ _ _)) rfl) ?_
  refine .ms 2 rfl rfl rfl ?_
  refine .on rfl (fun a w hS hI hp => does_val (x_bin rfl (hp.V 6 rfl rfl) (hp.V 7 rfl rfl) (b_add _ _ _ _ _)) rfl) ?_
  refine .on rfl (fun a w hS hI hp => does_cut (i := wrap64 (x1_1 + 4)) (j := wrap64 ((wrap64 (x1_1 + 4)) + t1006_1)) rfl (e := 5) (by kernel_rfl) (by kernel_rfl) (hp.V 2 rfl rfl) (.inr ⟨_, rfl, (hp.V 4 rfl rfl)⟩) (.inr ⟨_, rfl, (hp.V 8 rfl rfl)⟩) c9 c10 c11 hr1_0 ((Kd.C_below hcL1_0 hI.1))) ?_
  refine .on rfl (fun a w hS hI hp => (hp.V 9 rfl rfl).elim fun A_ h_ => h_.elim fun c_ h_ => h_.elim fun hv_ h_ => h_.elim fun hl_ hc_ => does_val (x_conv rfl hv_ (Kd.C_string (by kernel_rfl) (e := 5) (by kernel_rfl) (by kernel_rfl) hc_)) rfl) ?_
  refine .on rfl (fun a w hS hI hp => does_val (x_build (vs := [(0, .int .i64 t1026_1), (1, .string (strOfNums ((y1_0.take (wrap64 ((wrap64 (x1_1 + 4)) + t1006_1) : Int).toNat).drop (wrap64 (x1_1 + 4) : Int).toNat)))]) rfl (by rw [Array.toList_map]; exact (show [(0, a.eval (.tmp 60)), (1, a.eval (.tmp 69))] = _ from (li_cons (hp.V 1 rfl rfl) (li_cons (hp.V 10 rfl rfl) rfl)))) (by kernel_rfl)) rfl) ?_
  refine .on rfl (fun a w hS hI hp => does_litT tlv_Get.flat26 w1028.heap.size 22 26 _ [(0, .agg #[.int .i64 t1026_1, .string (strOfNums ((y1_0.take (wrap64 ((wrap64 (x1_1 + 4)) + t1006_1) : Int).toNat).drop (wrap64 (x1_1 + 4) : Int).toNat))])] (⟨t1026_1, strOfNums ((y1_0.take (wrap64 ((wrap64 (x1_1 + 4)) + t1006_1) : Int).toNat).drop (wrap64 (x1_1 + 4) : Int).toNat)⟩ : S26) rfl (by kernel_rfl) (by rw [Array.toList_map]; exact (show [(0, a.eval (.tmp 70))] = _ from (li_cons (hp.V 11 rfl rfl) rfl))) (by kernel_rfl) (hI.2.2).size) ?_
  exact .nil
 clear hS
 intro at1030 w1031 hS hI hp
 have hBw1031_w := hI.1
 have hBw1031_wL1 := hI.2.1
 have hBw1031_w1028 := hI.2.2
 replace hS := (((((hS.nil).cons (hS.get 5 rfl)).cons (hS.get 4 rfl)).cons (hS.get 3 rfl)).cons (hS.get 2 rfl)).cons (hS.get 1 rfl)
 have hv59 : sl _ 59 = .slice AL1_6 y1_6.length CL1_6 := hp 0 (by decide)
 obtain ⟨A1032, C1032, hv71, hl1032, hc1032⟩ := Kd.R_reads (show Kd.R k26 26 w1031 w1028.heap.size (fun _ => True) (sl _ 71) [(⟨t1026_1, strOfNums ((y1_0.take (wrap64 ((wrap64 (x1_1 + 4)) + t1006_1) : Int).toNat).drop (wrap64 (x1_1 + 4) : Int).toNat)⟩ : S26)] from hp 12 (by decide))
 have ho1032 : Kd.R k26 26 w1031 w1028.heap.size (fun _ => True) (.slice A1032 [(⟨t1026_1, strOfNums ((y1_0.take (wrap64 ((wrap64 (x1_1 + 4)) + t1006_1) : Int).toNat).drop (wrap64 (x1_1 + 4) : Int).toNat)⟩ : S26)].length C1032) [(⟨t1026_1, strOfNums ((y1_0.take (wrap64 ((wrap64 (x1_1 + 4)) + t1006_1) : Int).toNat).drop (wrap64 (x1_1 + 4) : Int).toNat)⟩ : S26)] := hv71 ▸ (hp 12 (by decide))
 have hBw1031_w1031 := Below.refl w1031.heap.size w1031
 have hS := hS.cons hv59
 have hS := hS.cons hv71
 clear hp hI hv59 hv71
 show wpList _ _ _ [_, _] _ _
 refine list_step rfl (does_moreT tlv_Get.flat26 (W := w) (.tmp 59) (.tmp 71) 22 26 (.agg #[(.int .i64 0), (.string ⟨#[]⟩)]) 24 rfl (by kernel_rfl) (by kernel_rfl) rfl (by decide) (by decide) _ y1_6 [(⟨t1026_1, strOfNums ((y1_0.take (wrap64 ((wrap64 (x1_1 + 4)) + t1006_1) : Int).toNat).drop (wrap64 (x1_1 + 4) : Int).toNat)⟩ : S26)] _ _ _ (hS.get 1 rfl) (hS.get 0 rfl) (Kd.R_below hoL1_6 hBw1031_wL1) (Kd.C_below hc1032 hBw1031_w1031) hBw1031_w c12) ?_
 rintro vw1033 w1033 ⟨hb, hr, hk⟩
 clear hk
 have hBw1033_w := hb
 replace hS := ((((hS.nil).cons (hS.get 5 rfl)).cons (hS.get 4 rfl)).cons (hS.get 3 rfl)).cons (hS.get 2 rfl)
 have hBw1033_w1033 := Below.refl w1033.heap.size w1033
 obtain ⟨A1034, C1034, rfl, hl1034, hc1034⟩ := Kd.R_reads hr
 have hr1034 := hr
 clear hr
 refine hS.next (v := .slice A1034 ((y1_6 ++ [(⟨t1026_1, strOfNums ((y1_0.take (wrap64 ((wrap64 (x1_1 + 4)) + t1006_1) : Int).toNat).drop (wrap64 (x1_1 + 4) : Int).toNat)⟩ : S26)] : List S26).length) C1034) (d := 72) rfl (by decide) (by rfl) ?_
 clear hS
 intro at1035 hS
 refine list_step rfl (R := fun v w' => Below _ _ w' ∧ (IsV (.slice A1034 ((y1_6 ++ [(⟨t1026_1, strOfNums ((y1_0.take (wrap64 ((wrap64 (x1_1 + 4)) + t1006_1) : Int).toNat).drop (wrap64 (x1_1 + 4) : Int).toNat)⟩ : S26)] : List S26).length) C1034)) v w') (does_val (x_assign rfl (hS.get 0 rfl)) rfl) ?_
 rintro vw1036 w1036 ⟨hb, he⟩
 have hBw1036_w := below_step hBw1033_w hb
 have hBw1036_w1033 := below_step hBw1033_w1033 hb
 have hBw1036_w1036 := Below.refl w1036.heap.size w1036
 obtain rfl : vw1036 = .slice A1034 ((y1_6 ++ [(⟨t1026_1, strOfNums ((y1_0.take (wrap64 ((wrap64 (x1_1 + 4)) + t1006_1) : Int).toNat).drop (wrap64 (x1_1 + 4) : Int).toNat)⟩ : S26)] : List S26).length) C1034 := he
 refine hS.next (v := .slice A1034 ((y1_6 ++ [(⟨t1026_1, strOfNums ((y1_0.take (wrap64 ((wrap64 (x1_1 + 4)) + t1006_1) : Int).toNat).drop (wrap64 (x1_1 + 4) : Int).toNat)⟩ : S26)] : List S26).length) C1034) (d := 6) rfl (by decide) (by rfl) ?_
 clear hS
 intro at1037 hS
 refine wpList_nil ?_
 refine hK1029 _ _ ?_
 (try clear hK1029 K1029)
 refine reg_seq_tail 4 (N := 81) (bs := [(6, .slice A1034 ((y1_6 ++ [(⟨t1026_1, strOfNums ((y1_0.take (wrap64 ((wrap64 (x1_1 + 4)) + t1006_1) : Int).toNat).drop (wrap64 (x1_1 + 4) : Int).toNat)⟩ : S26)] : List S26).length) C1034), (72, .slice A1034 ((y1_6 ++ [(⟨t1026_1, strOfNums ((y1_0.take (wrap64 ((wrap64 (x1_1 + 4)) + t1006_1) : Int).toNat).drop (wrap64 (x1_1 + 4) : Int).toNat)⟩ : S26)] : List S26).length) C1034), (7, .int .i64 4), (8, .int .i64 t1006_1), (0, .slice AL1_0 y1_0.length CL1_0), (1, .int .i64 x1_1)]) (I := fun x => Below w.heap.size w x ∧ Below w1033.heap.size w1033 x ∧ Below w1036.heap.size w1036 x) (ps := [VI x1_1, VI t1006_1, VI (wrap64 (4 + t1006_1)), VI (wrap64 (x1_1 + (wrap64 (4 + t1006_1))))]) (by kernel_rfl) ?_ ?_ rfl hS ⟨hBw1036_w, hBw1036_w1033, hBw1036_w1036⟩ ?_ ?_
 ·exact fun x y hI hb => ⟨below_step hI.1 hb, below_step hI.2.1 hb, below_step hI.2.2 hb⟩
 ·exact .v (.v (.v (.v (.nil))))
 ·refine .ms 5 rfl rfl rfl ?_
  refine .ms 3 rfl rfl rfl ?_
  refine .on rfl (fun a w hS hI hp => does_val (x_bin rfl (rfl) (hp.V 1 rfl rfl) (b_add _ _ _ _ _)) rfl) ?_
  refine .on rfl (fun a w hS hI hp => does_val (x_bin rfl (hp.V 0 rfl rfl) (hp.V 2 rfl rfl) (b_add _ _ _ _ _)) rfl) ?_
  exact .nil
 clear hS
 intro at1038 w1039 hS hI hp
 have hBw1039_w := hI.1
 have hBw1039_w1033 := hI.2.1
 have hBw1039_w1036 := hI.2.2
 replace hS := ((((hS.nil).cons (hS.get 5 rfl)).cons (hS.get 4 rfl)).cons (hS.get 2 rfl)).cons (hS.get 0 rfl)
 have hv76 : sl _ 76 = .int .i64 (wrap64 (x1_1 + (wrap64 (4 + t1006_1)))) := hp 3 (by decide)
 have hBw1039_w1039 := Below.refl w1039.heap.size w1039
 have hS := hS.cons hv76
 clear hp hI hv76
 show wpList _ _ _ [_] _ _
 refine list_step rfl (R := fun v w' => Below _ _ w' ∧ (VI (wrap64 (x1_1 + (wrap64 (4 + t1006_1))))) v w') (does_val (x_assign rfl (hS.get 0 rfl)) rfl) ?_
 rintro vw1040 w1040 ⟨hb, he⟩
 have hBw1040_w := below_step hBw1039_w hb
 have hBw1040_w1033 := below_step hBw1039_w1033 hb
 have hBw1040_w1039 := below_step hBw1039_w1039 hb
 have hBw1040_w1040 := Below.refl w1040.heap.size w1040
 obtain rfl : vw1040 = .int .i64 (wrap64 (x1_1 + (wrap64 (4 + t1006_1)))) := he
 replace hS := ((((hS.nil).cons (hS.get 3 rfl)).cons (hS.get 2 rfl)).cons (hS.get 1 rfl)).cons (hS.get 0 rfl)
 refine hS.next (v := .int .i64 (wrap64 (x1_1 + (wrap64 (4 + t1006_1))))) (d := 1) rfl (by decide) (by rfl) ?_
 clear hS
 intro at1041 hS
 refine wpList_nil ?_
 replace hS := ((((hS.nil).cons (hS.get 3 rfl)).cons (hS.get 2 rfl)).cons (hS.get 0 rfl)).cons (hS.get 4 rfl)
 (try simp only [Exit.then, Exit.inBlock])
 exact ⟨n1, Nat.lt_succ_self _, y1_0, AL1_0, CL1_0, wrap64 (x1_1 + (wrap64 (4 + t1006_1))), (y1_6 ++ [(⟨t1026_1, strOfNums ((y1_0.take (wrap64 ((wrap64 (x1_1 + 4)) + t1006_1) : Int).toNat).drop (wrap64 (x1_1 + 4) : Int).toNat)⟩ : S26)] : List S26), A1034, C1034, 4, H, hS, hBw1040_w, hr1_0, (hcL1_0), hl1034, (Kd.R_lower (Kd.R_below hr1034 hBw1040_w1033) (Nat.le_refl _))⟩
end Go.Proofs.Ytgmiokocipmbaaa.P
