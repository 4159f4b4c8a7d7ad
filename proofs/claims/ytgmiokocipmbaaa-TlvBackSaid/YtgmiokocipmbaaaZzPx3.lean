/- Functions and loops of the given program as Lean functions, and that the code comes to what they say: written by this session's own program; Lean checks it. -/
import Derived.Test.YtgmiokocipmbaaaZzPx0
import Derived.Test.YtgmiokocipmbaaaZzPx2
namespace Go.Proofs.Ytgmiokocipmbaaa.P
open Go.RowKit Go.Proofs.YtgmiokocipmbaaaW.PrintWords Go.Proofs.YtgmiokocipmbaaaW.PrintLast Go.Proofs.YtgmiokocipmbaaaW.PrintMore
attribute [local go_sem] max2_int min2_int max_two min_two max_three min_three max_four min_four   -- for this text's walks alone
set_option linter.unusedVariables false
set_option linter.unusedSimpArgs false
/-! ### carillonlaw08_awake: function 11: by our own printer -/
def carillonlaw08_awake.f (k : Nat)  : Option (Bool) := (tlv_Path.f k [1]).bind fun t5 => ((tlv_Put.f k [] [(⟨t5.1, t5.2.1⟩ : S26)]).bind fun t13 => (if t5.2.2 = true then (if t13.2 = true then (if (t13.1.length : Int) = 12 then (if 4 ≤ (t13.1.length : Int) then (some ((strOfNums (t13.1.take (4 : Int).toNat)).toList == (⟨#[0, 8, 0, 8]⟩ : ByteArray).toList)) else (none)) else (some false)) else (some false)) else (some false)))
open Go.Proofs.Ytgmiokocipmbaaa.E in
theorem carillonlaw08_awake.flat26 : Flat k26 (fun x => [.int .i64 x.f0, .string x.f1]) := ⟨fun w x cs h => k26_open h, fun w base x => k26_mkM w base _ x⟩
open Go.Proofs.Ytgmiokocipmbaaa.E in
set_option maxHeartbeats 60000000 in
set_option maxRecDepth 100000 in
theorem carillonlaw08_awake.calls (k : Nat) (r : Bool) (w : World) (h : carillonlaw08_awake.f k  = some r) :
    Calls Try.prog 11 #[] w fun e w' => e = .returned (.bool r) ∧ Below w.heap.size w w' := by
  have H := h
  clear h
  unfold carillonlaw08_awake.f at H
  obtain ⟨t5, At5, H⟩ := Option.bind_eq_some_iff.mp H
  obtain ⟨t5_1, t5_2, t5_3⟩ := t5
  (try dsimp only at H)
  obtain ⟨t13, At13, H⟩ := Option.bind_eq_some_iff.mp H
  obtain ⟨t13_1, t13_2⟩ := t13
  (try dsimp only at H)
  by_cases c1 : t5_3 = true
  rotate_left
  · rw [if_neg c1] at H
    obtain rfl := Option.some.inj H
    refine calls_of_wp (fn := Try.f11) (by kernel_rfl) rfl ?_
    have hS := St.enter #[] 31 (by simp) [] (by simp)
    have HB0 := Below.refl w.heap.size w
    refine wp_seq_k (fun K1 hK1 => ?_)
    refine reg_seq (N := 31) (bs := []) (I := fun x => Below w.heap.size w x) (ps := [VB false]) (by kernel_rfl) ?_ ?_ rfl hS HB0 ?_ ?_
    · exact fun x y hI hb => below_step hI hb
    · exact .v (.nil)
    · refine .on rfl (fun a w hS hI hp => does_val (x_assign rfl (rfl)) rfl) ?_
      exact .nil
    clear hS
    intro at2 w3 hS hI hp
    have hBw3_w := hI
    have hBw3_w3 := Below.refl w3.heap.size w3
    clear hp hI
    refine hK1 _ _ ?_
    (try clear hK1 K1)
    refine wp_seq_k (fun K4 hK4 => ?_)
    refine reg_seq_tail 6 (N := 31) (bs := []) (I := fun x => Below w.heap.size w x ∧ Below w3.heap.size w3 x) (ps := [IsR (Kd.int .u64) 58 w3.heap.size [1], IsV (.tuple #[.agg #[.int .i64 t5_1, .string t5_2], .bool t5_3]), IsV (.tuple #[.agg #[.int .i64 t5_1, .string t5_2], .bool t5_3]), IsV (.agg #[.int .i64 t5_1, .string t5_2]), VB t5_3, IsB #[.int .i64 0, .string (⟨#[]⟩ : ByteArray)] 26 w3.heap.size]) (by kernel_rfl) ?_ ?_ rfl hS ⟨hBw3_w, hBw3_w3⟩ ?_ ?_
    · exact fun x y hI hb => ⟨below_step hI.1 hb, below_step hI.2 hb⟩
    · exact .cons (Stays.r _ _ _ _) (.v (.v (.v (.v (.cons (Stays.b _ _ _) (.nil))))))
    · refine .on rfl (fun a w hS hI hp => does_lit w3.heap.size 45 58 1 _ [(0, .int .u64 1)] [1] rfl (by kernel_rfl) (by rw [Array.toList_map]; exact (show [(0, a.eval (.const (.int .u64 1)))] = _ from (li_cons (rfl) rfl))) (by kernel_rfl) rfl (hI.2).size (Nat.le_of_ble_eq_true rfl)) ?_
      refine .on rfl (fun a w hS hI hp => (IsC.of_r (hp.V 0 rfl rfl)).elim fun A_ h_ => h_.elim fun c_ h_ => h_.elim fun hv_ h_ => h_.elim fun hl_ hc_ => does_call (by kernel_rfl) (ar1 (hv_)) ((tlv_Path.calls k _ _ [1] t5_1 t5_2 t5_3 _ hc_ hl_ At5).mono fun _ _ h => ⟨_, h.1, h.2, rfl⟩)) ?_
      refine .mv 1 rfl rfl rfl rfl ?_
      iterate 2 refine .on rfl (fun a w hS hI hp => does_val (x_extract rfl (hp.V 2 rfl rfl) rfl) rfl) ?_
      refine .on rfl (fun a w hS hI hp => does_var (x_alloc rfl (by kernel_rfl)) (hI.2).size) ?_
      exact .nil
    clear hS
    intro at6 w7 hS hI hp
    have hBw7_w := hI.1
    have hBw7_w3 := hI.2
    have hv8 : sl _ 8 = .agg #[.int .i64 t5_1, .string t5_2] := hp 3 (by decide)
    have hv9 : sl _ 9 = .bool t5_3 := hp 4 (by decide)
    obtain ⟨g8, hv1, hgeg8, hbxg8⟩ := (show IsB _ 26 _ (sl _ 1) _ from hp 5 (by decide))
    have hBw7_w7 := Below.refl w7.heap.size w7
    have hS := hS.cons hv8
    have hS := hS.cons hv9
    have hS := hS.cons hv1
    clear hp hI hv8 hv9 hv1
    show wpList _ _ _ [_, _] _ _
    refine list_step rfl (does_storeAll (g := g8) (cs := #[.int .i64 t5_1, .string t5_2]) rfl (hS.get 0 rfl) (hS.get 2 rfl) ((hBw7_w7.block g8 (blk_lt hbxg8)).trans hbxg8) (by kernel_rfl) (by kernel_rfl) (by kernel_rfl)) ?_
    rintro vw9 w9 ⟨rfl, hbxw9, hT⟩
    have hBw9_w := hT.below hBw7_w (Nat.le_trans (hBw3_w).size hgeg8) (hBw7_w).size
    have hBw9_w3 := hT.below hBw7_w3 hgeg8 (hBw7_w3).size
    have hBw9_w9 := Below.refl w9.heap.size w9
    clear hT
    refine list_step rfl (R := fun v w' => Below _ _ w' ∧ (VB t5_3) v w') (does_val (x_assign rfl (hS.get 1 rfl)) rfl) ?_
    rintro vw10 w10 ⟨hb, he⟩
    have hBw10_w := below_step hBw9_w hb
    have hBw10_w3 := below_step hBw9_w3 hb
    have hBw10_w9 := below_step hBw9_w9 hb
    have hBw10_w10 := Below.refl w10.heap.size w10
    obtain rfl : vw10 = .bool t5_3 := he
    refine hS.next (v := .bool t5_3) (d := 2) rfl (by decide) (by rfl) ?_
    clear hS
    intro at11 hS
    refine wpList_nil ?_
    refine hK4 _ _ ?_
    (try clear hK4 K4)
    refine wp_seq_k (fun K12 hK12 => ?_)
    refine reg_seq (N := 31) (bs := [(2, .bool t5_3), (1, .pointer (some ⟨g8, 0, none⟩)), (9, .bool t5_3), (8, .agg #[.int .i64 t5_1, .string t5_2])]) (I := fun x => Below w.heap.size w x ∧ Below w3.heap.size w3 x ∧ Below w9.heap.size w9 x ∧ Below w10.heap.size w10 x) (ps := [IsV (.agg #[.int .i64 t5_1, .string t5_2]), IsR k26 26 w10.heap.size [(⟨t5_1, t5_2⟩ : S26)], IsT (fun v0_ => #[v0_, .bool t13_2]) (IsC (Kd.int .u8) t13_1), IsT (fun v0_ => #[v0_, .bool t13_2]) (IsC (Kd.int .u8) t13_1), IsC (Kd.int .u8) t13_1, VB t13_2, IsC (Kd.int .u8) t13_1, VB t13_2]) (by kernel_rfl) ?_ ?_ rfl hS ⟨hBw10_w, hBw10_w3, hBw10_w9, hBw10_w10⟩ ?_ ?_
    · exact fun x y hI hb => ⟨below_step hI.1 hb, below_step hI.2.1 hb, below_step hI.2.2.1 hb, below_step hI.2.2.2 hb⟩
    · exact .v (.cons (Stays.r _ _ _ _) (.cons (Stays.t _ (Stays.c _ _)) (.cons (Stays.t _ (Stays.c _ _)) (.cons (Stays.c _ _) (.v (.cons (Stays.c _ _) (.v (.nil))))))))
    · refine .on rfl (fun a w hS hI hp => does_loadrow rfl (hS.get 1 rfl) (((hI.2.2.1).block g8 (blk_lt hbxw9)).trans hbxw9) Try.underlying26 rfl (by kernel_rfl) rfl) ?_
      refine .on rfl (fun a w hS hI hp => does_litT carillonlaw08_awake.flat26 w10.heap.size 22 26 _ [(0, .agg #[.int .i64 t5_1, .string t5_2])] (⟨t5_1, t5_2⟩ : S26) rfl (by kernel_rfl) (by rw [Array.toList_map]; exact (show [(0, a.eval (.tmp 11))] = _ from (li_cons (hp.V 0 rfl rfl) rfl))) (by kernel_rfl) (hI.2.2.2).size) ?_
      refine .on rfl (fun a w hS hI hp => (IsC.of_r (hp.V 1 rfl rfl)).elim fun A_ h_ => h_.elim fun c_ h_ => h_.elim fun hv_ h_ => h_.elim fun hl_ hc_ => does_call (by kernel_rfl) (ar2 (rfl) (hv_)) ((tlv_Put.calls k _ _ [] _ _ [(⟨t5_1, t5_2⟩ : S26)] t13_1 t13_2 _ (Kd.C_nil _ _) (Nat.le_refl _) hc_ hl_ At13).mono fun _ _ h => h.elim fun v0 h => ⟨_, h.1, h.2.2, v0, rfl, h.2.1⟩)) ?_
      refine .on rfl (fun a w hS hI hp => does_val (x_move rfl rfl) (hp.V 2 rfl rfl)) ?_
      refine .on rfl (fun a w hS hI hp => (hp.V 3 rfl rfl).elim fun v0 h0 => does_val (x_extract rfl h0.1 rfl) h0.2) ?_
      refine .on rfl (fun a w hS hI hp => (hp.V 3 rfl rfl).elim fun v0 h0 => does_val (x_extract rfl h0.1 rfl) rfl) ?_
      refine .on rfl (fun a w hS hI hp => does_val (x_assign rfl rfl) (hp.V 4 rfl rfl)) ?_
      refine .asg 5 rfl rfl rfl rfl ?_
      exact .nil
    clear hS
    intro at14 w15 hS hI hp
    have hBw15_w := hI.1
    have hBw15_w3 := hI.2.1
    have hBw15_w9 := hI.2.2.1
    have hBw15_w10 := hI.2.2.2
    replace hS := (hS.nil).cons (hS.get 0 rfl)
    obtain ⟨A16, C16, hv3, hl16, hc16⟩ := (show IsC (Kd.int .u8) t13_1 (sl _ 3) w15 from hp 6 (by decide))
    have hv4 : sl _ 4 = .bool t13_2 := hp 7 (by decide)
    have hBw15_w15 := Below.refl w15.heap.size w15
    have hS := hS.cons hv3
    have hS := hS.cons hv4
    clear hp hI hv3 hv4
    refine hK12 _ _ ?_
    (try clear hK12 K12)
    refine wp_seq_k (fun K17 hK17 => ?_)
    refine reg_seq (N := 31) (bs := [(4, .bool t13_2), (3, .slice A16 t13_1.length C16), (2, .bool t5_3)]) (I := fun x => Below w.heap.size w x ∧ Below w3.heap.size w3 x ∧ Below w9.heap.size w9 x ∧ Below w15.heap.size w15 x) (ps := [VB t5_3, VB t5_3, VU, VB false, VB false, VU, VU, VU, VB false, VB false, VU, VU, VU, VU, VB false, VB false]) (by kernel_rfl) ?_ ?_ rfl hS ⟨hBw15_w, hBw15_w3, hBw15_w9, hBw15_w15⟩ ?_ ?_
    · exact fun x y hI hb => ⟨below_step hI.1 hb, below_step hI.2.1 hb, below_step hI.2.2.1 hb, below_step hI.2.2.2 hb⟩
    · exact .v (.v (.v (.v (.v (.v (.v (.v (.v (.v (.v (.v (.v (.v (.v (.v (.nil))))))))))))))))
    · refine .ms 2 rfl rfl rfl ?_
      refine .mv 0 rfl rfl rfl rfl ?_
      refine .sn 1 17 rfl rfl rfl rfl rfl ((Bool.eq_false_iff.2 c1)) ?_
      refine .pf 1 rfl rfl rfl rfl ((Bool.eq_false_iff.2 c1)) (fun _ => rfl) ?_
      refine .mv 3 rfl rfl rfl rfl ?_
      iterate 3 refine .sn 4 20 rfl rfl rfl rfl rfl rfl ?_
      refine .pf 4 rfl rfl rfl rfl rfl (fun _ => rfl) ?_
      refine .mv 8 rfl rfl rfl rfl ?_
      iterate 4 refine .sn 9 25 rfl rfl rfl rfl rfl rfl ?_
      refine .pf 9 rfl rfl rfl rfl rfl (fun _ => rfl) ?_
      refine .asg 14 rfl rfl rfl rfl ?_
      exact .nil
    clear hS
    intro at18 w19 hS hI hp
    have hBw19_w := hI.1
    have hBw19_w3 := hI.2.1
    have hBw19_w9 := hI.2.2.1
    have hBw19_w15 := hI.2.2.2
    replace hS := hS.nil
    have hv0 : sl _ 0 = .bool false := hp 15 (by decide)
    have hBw19_w19 := Below.refl w19.heap.size w19
    have hS := hS.cons hv0
    clear hp hI hv0
    refine hK17 _ _ ?_
    (try clear hK17 K17)
    refine wp_ret ?_
    (try simp only [Exit.then, Exit.inBlock, Exit.jump, Exit.noGoto])
    exact bodyPost_ret (v := .bool false) (results_single rfl (Vals.at (hS.get 0 rfl) .nil)) hS.nodef ⟨rfl, hBw19_w⟩
  rw [if_pos c1] at H
  by_cases c2 : t13_2 = true
  rotate_left
  · rw [if_neg c2] at H
    obtain rfl := Option.some.inj H
    refine calls_of_wp (fn := Try.f11) (by kernel_rfl) rfl ?_
    have hS := St.enter #[] 31 (by simp) [] (by simp)
    have HB0 := Below.refl w.heap.size w
    refine wp_seq_k (fun K1 hK1 => ?_)
    refine reg_seq (N := 31) (bs := []) (I := fun x => Below w.heap.size w x) (ps := [VB false]) (by kernel_rfl) ?_ ?_ rfl hS HB0 ?_ ?_
    · exact fun x y hI hb => below_step hI hb
    · exact .v (.nil)
    · refine .on rfl (fun a w hS hI hp => does_val (x_assign rfl (rfl)) rfl) ?_
      exact .nil
    clear hS
    intro at2 w3 hS hI hp
    have hBw3_w := hI
    have hBw3_w3 := Below.refl w3.heap.size w3
    clear hp hI
    refine hK1 _ _ ?_
    (try clear hK1 K1)
    refine wp_seq_k (fun K4 hK4 => ?_)
    refine reg_seq_tail 6 (N := 31) (bs := []) (I := fun x => Below w.heap.size w x ∧ Below w3.heap.size w3 x) (ps := [IsR (Kd.int .u64) 58 w3.heap.size [1], IsV (.tuple #[.agg #[.int .i64 t5_1, .string t5_2], .bool t5_3]), IsV (.tuple #[.agg #[.int .i64 t5_1, .string t5_2], .bool t5_3]), IsV (.agg #[.int .i64 t5_1, .string t5_2]), VB t5_3, IsB #[.int .i64 0, .string (⟨#[]⟩ : ByteArray)] 26 w3.heap.size]) (by kernel_rfl) ?_ ?_ rfl hS ⟨hBw3_w, hBw3_w3⟩ ?_ ?_
    · exact fun x y hI hb => ⟨below_step hI.1 hb, below_step hI.2 hb⟩
    · exact .cons (Stays.r _ _ _ _) (.v (.v (.v (.v (.cons (Stays.b _ _ _) (.nil))))))
    · refine .on rfl (fun a w hS hI hp => does_lit w3.heap.size 45 58 1 _ [(0, .int .u64 1)] [1] rfl (by kernel_rfl) (by rw [Array.toList_map]; exact (show [(0, a.eval (.const (.int .u64 1)))] = _ from (li_cons (rfl) rfl))) (by kernel_rfl) rfl (hI.2).size (Nat.le_of_ble_eq_true rfl)) ?_
      refine .on rfl (fun a w hS hI hp => (IsC.of_r (hp.V 0 rfl rfl)).elim fun A_ h_ => h_.elim fun c_ h_ => h_.elim fun hv_ h_ => h_.elim fun hl_ hc_ => does_call (by kernel_rfl) (ar1 (hv_)) ((tlv_Path.calls k _ _ [1] t5_1 t5_2 t5_3 _ hc_ hl_ At5).mono fun _ _ h => ⟨_, h.1, h.2, rfl⟩)) ?_
      refine .mv 1 rfl rfl rfl rfl ?_
      iterate 2 refine .on rfl (fun a w hS hI hp => does_val (x_extract rfl (hp.V 2 rfl rfl) rfl) rfl) ?_
      refine .on rfl (fun a w hS hI hp => does_var (x_alloc rfl (by kernel_rfl)) (hI.2).size) ?_
      exact .nil
    clear hS
    intro at6 w7 hS hI hp
    have hBw7_w := hI.1
    have hBw7_w3 := hI.2
    have hv8 : sl _ 8 = .agg #[.int .i64 t5_1, .string t5_2] := hp 3 (by decide)
    have hv9 : sl _ 9 = .bool t5_3 := hp 4 (by decide)
    obtain ⟨g8, hv1, hgeg8, hbxg8⟩ := (show IsB _ 26 _ (sl _ 1) _ from hp 5 (by decide))
    have hBw7_w7 := Below.refl w7.heap.size w7
    have hS := hS.cons hv8
    have hS := hS.cons hv9
    have hS := hS.cons hv1
    clear hp hI hv8 hv9 hv1
    show wpList _ _ _ [_, _] _ _
    refine list_step rfl (does_storeAll (g := g8) (cs := #[.int .i64 t5_1, .string t5_2]) rfl (hS.get 0 rfl) (hS.get 2 rfl) ((hBw7_w7.block g8 (blk_lt hbxg8)).trans hbxg8) (by kernel_rfl) (by kernel_rfl) (by kernel_rfl)) ?_
    rintro vw9 w9 ⟨rfl, hbxw9, hT⟩
    have hBw9_w := hT.below hBw7_w (Nat.le_trans (hBw3_w).size hgeg8) (hBw7_w).size
    have hBw9_w3 := hT.below hBw7_w3 hgeg8 (hBw7_w3).size
    have hBw9_w9 := Below.refl w9.heap.size w9
    clear hT
    refine list_step rfl (R := fun v w' => Below _ _ w' ∧ (VB t5_3) v w') (does_val (x_assign rfl (hS.get 1 rfl)) rfl) ?_
    rintro vw10 w10 ⟨hb, he⟩
    have hBw10_w := below_step hBw9_w hb
    have hBw10_w3 := below_step hBw9_w3 hb
    have hBw10_w9 := below_step hBw9_w9 hb
    have hBw10_w10 := Below.refl w10.heap.size w10
    obtain rfl : vw10 = .bool t5_3 := he
    refine hS.next (v := .bool t5_3) (d := 2) rfl (by decide) (by rfl) ?_
    clear hS
    intro at11 hS
    refine wpList_nil ?_
    refine hK4 _ _ ?_
    (try clear hK4 K4)
    refine wp_seq_k (fun K12 hK12 => ?_)
    refine reg_seq (N := 31) (bs := [(2, .bool t5_3), (1, .pointer (some ⟨g8, 0, none⟩)), (9, .bool t5_3), (8, .agg #[.int .i64 t5_1, .string t5_2])]) (I := fun x => Below w.heap.size w x ∧ Below w3.heap.size w3 x ∧ Below w9.heap.size w9 x ∧ Below w10.heap.size w10 x) (ps := [IsV (.agg #[.int .i64 t5_1, .string t5_2]), IsR k26 26 w10.heap.size [(⟨t5_1, t5_2⟩ : S26)], IsT (fun v0_ => #[v0_, .bool t13_2]) (IsC (Kd.int .u8) t13_1), IsT (fun v0_ => #[v0_, .bool t13_2]) (IsC (Kd.int .u8) t13_1), IsC (Kd.int .u8) t13_1, VB t13_2, IsC (Kd.int .u8) t13_1, VB t13_2]) (by kernel_rfl) ?_ ?_ rfl hS ⟨hBw10_w, hBw10_w3, hBw10_w9, hBw10_w10⟩ ?_ ?_
    · exact fun x y hI hb => ⟨below_step hI.1 hb, below_step hI.2.1 hb, below_step hI.2.2.1 hb, below_step hI.2.2.2 hb⟩
    · exact .v (.cons (Stays.r _ _ _ _) (.cons (Stays.t _ (Stays.c _ _)) (.cons (Stays.t _ (Stays.c _ _)) (.cons (Stays.c _ _) (.v (.cons (Stays.c _ _) (.v (.nil))))))))
    · refine .on rfl (fun a w hS hI hp => does_loadrow rfl (hS.get 1 rfl) (((hI.2.2.1).block g8 (blk_lt hbxw9)).trans hbxw9) Try.underlying26 rfl (by kernel_rfl) rfl) ?_
      refine .on rfl (fun a w hS hI hp => does_litT carillonlaw08_awake.flat26 w10.heap.size 22 26 _ [(0, .agg #[.int .i64 t5_1, .string t5_2])] (⟨t5_1, t5_2⟩ : S26) rfl (by kernel_rfl) (by rw [Array.toList_map]; exact (show [(0, a.eval (.tmp 11))] = _ from (li_cons (hp.V 0 rfl rfl) rfl))) (by kernel_rfl) (hI.2.2.2).size) ?_
      refine .on rfl (fun a w hS hI hp => (IsC.of_r (hp.V 1 rfl rfl)).elim fun A_ h_ => h_.elim fun c_ h_ => h_.elim fun hv_ h_ => h_.elim fun hl_ hc_ => does_call (by kernel_rfl) (ar2 (rfl) (hv_)) ((tlv_Put.calls k _ _ [] _ _ [(⟨t5_1, t5_2⟩ : S26)] t13_1 t13_2 _ (Kd.C_nil _ _) (Nat.le_refl _) hc_ hl_ At13).mono fun _ _ h => h.elim fun v0 h => ⟨_, h.1, h.2.2, v0, rfl, h.2.1⟩)) ?_
      refine .on rfl (fun a w hS hI hp => does_val (x_move rfl rfl) (hp.V 2 rfl rfl)) ?_
      refine .on rfl (fun a w hS hI hp => (hp.V 3 rfl rfl).elim fun v0 h0 => does_val (x_extract rfl h0.1 rfl) h0.2) ?_
      refine .on rfl (fun a w hS hI hp => (hp.V 3 rfl rfl).elim fun v0 h0 => does_val (x_extract rfl h0.1 rfl) rfl) ?_
      refine .on rfl (fun a w hS hI hp => does_val (x_assign rfl rfl) (hp.V 4 rfl rfl)) ?_
      refine .asg 5 rfl rfl rfl rfl ?_
      exact .nil
    clear hS
    intro at14 w15 hS hI hp
    have hBw15_w := hI.1
    have hBw15_w3 := hI.2.1
    have hBw15_w9 := hI.2.2.1
    have hBw15_w10 := hI.2.2.2
    replace hS := (hS.nil).cons (hS.get 0 rfl)
    obtain ⟨A16, C16, hv3, hl16, hc16⟩ := (show IsC (Kd.int .u8) t13_1 (sl _ 3) w15 from hp 6 (by decide))
    have hv4 : sl _ 4 = .bool t13_2 := hp 7 (by decide)
    have hBw15_w15 := Below.refl w15.heap.size w15
    have hS := hS.cons hv3
    have hS := hS.cons hv4
    clear hp hI hv3 hv4
    refine hK12 _ _ ?_
    (try clear hK12 K12)
    refine wp_seq_k (fun K17 hK17 => ?_)
    refine reg_seq (N := 31) (bs := [(4, .bool t13_2), (3, .slice A16 t13_1.length C16), (2, .bool t5_3)]) (I := fun x => Below w.heap.size w x ∧ Below w3.heap.size w3 x ∧ Below w9.heap.size w9 x ∧ Below w15.heap.size w15 x) (ps := [VB t5_3, VB t5_3, VB t13_2, VB t13_2, VB t13_2, VU, VU, VU, VB false, VB false, VU, VU, VU, VU, VB false, VB false]) (by kernel_rfl) ?_ ?_ rfl hS ⟨hBw15_w, hBw15_w3, hBw15_w9, hBw15_w15⟩ ?_ ?_
    · exact fun x y hI hb => ⟨below_step hI.1 hb, below_step hI.2.1 hb, below_step hI.2.2.1 hb, below_step hI.2.2.2 hb⟩
    · exact .v (.v (.v (.v (.v (.v (.v (.v (.v (.v (.v (.v (.v (.v (.v (.v (.nil))))))))))))))))
    · refine .ms 2 rfl rfl rfl ?_
      refine .mv 0 rfl rfl rfl rfl ?_
      refine .oy 1 17 rfl rfl rfl rfl rfl c1 (fun a w hS hI hp => does_val (x_move rfl (hS.get 0 rfl)) rfl) ?_
      refine .pt 1 2 rfl rfl rfl rfl c1 rfl rfl ?_
      refine .mv 3 rfl rfl rfl rfl ?_
      iterate 3 refine .sn 4 20 rfl rfl rfl rfl rfl ((Bool.eq_false_iff.2 c2)) ?_
      refine .pf 4 rfl rfl rfl rfl ((Bool.eq_false_iff.2 c2)) (fun _ => rfl) ?_
      refine .mv 8 rfl rfl rfl rfl ?_
      iterate 4 refine .sn 9 25 rfl rfl rfl rfl rfl rfl ?_
      refine .pf 9 rfl rfl rfl rfl rfl (fun _ => rfl) ?_
      refine .asg 14 rfl rfl rfl rfl ?_
      exact .nil
    clear hS
    intro at18 w19 hS hI hp
    have hBw19_w := hI.1
    have hBw19_w3 := hI.2.1
    have hBw19_w9 := hI.2.2.1
    have hBw19_w15 := hI.2.2.2
    replace hS := hS.nil
    have hv0 : sl _ 0 = .bool false := hp 15 (by decide)
    have hBw19_w19 := Below.refl w19.heap.size w19
    have hS := hS.cons hv0
    clear hp hI hv0
    refine hK17 _ _ ?_
    (try clear hK17 K17)
    refine wp_ret ?_
    (try simp only [Exit.then, Exit.inBlock, Exit.jump, Exit.noGoto])
    exact bodyPost_ret (v := .bool false) (results_single rfl (Vals.at (hS.get 0 rfl) .nil)) hS.nodef ⟨rfl, hBw19_w⟩
  rw [if_pos c2] at H
  by_cases c3 : (t13_1.length : Int) = 12
  rotate_left
  · rw [if_neg c3] at H
    obtain rfl := Option.some.inj H
    refine calls_of_wp (fn := Try.f11) (by kernel_rfl) rfl ?_
    have hS := St.enter #[] 31 (by simp) [] (by simp)
    have HB0 := Below.refl w.heap.size w
    refine wp_seq_k (fun K1 hK1 => ?_)
    refine reg_seq (N := 31) (bs := []) (I := fun x => Below w.heap.size w x) (ps := [VB false]) (by kernel_rfl) ?_ ?_ rfl hS HB0 ?_ ?_
    · exact fun x y hI hb => below_step hI hb
    · exact .v (.nil)
    · refine .on rfl (fun a w hS hI hp => does_val (x_assign rfl (rfl)) rfl) ?_
      exact .nil
    clear hS
    intro at2 w3 hS hI hp
    have hBw3_w := hI
    have hBw3_w3 := Below.refl w3.heap.size w3
    clear hp hI
    refine hK1 _ _ ?_
    (try clear hK1 K1)
    refine wp_seq_k (fun K4 hK4 => ?_)
    refine reg_seq_tail 6 (N := 31) (bs := []) (I := fun x => Below w.heap.size w x ∧ Below w3.heap.size w3 x) (ps := [IsR (Kd.int .u64) 58 w3.heap.size [1], IsV (.tuple #[.agg #[.int .i64 t5_1, .string t5_2], .bool t5_3]), IsV (.tuple #[.agg #[.int .i64 t5_1, .string t5_2], .bool t5_3]), IsV (.agg #[.int .i64 t5_1, .string t5_2]), VB t5_3, IsB #[.int .i64 0, .string (⟨#[]⟩ : ByteArray)] 26 w3.heap.size]) (by kernel_rfl) ?_ ?_ rfl hS ⟨hBw3_w, hBw3_w3⟩ ?_ ?_
    · exact fun x y hI hb => ⟨below_step hI.1 hb, below_step hI.2 hb⟩
    · exact .cons (Stays.r _ _ _ _) (.v (.v (.v (.v (.cons (Stays.b _ _ _) (.nil))))))
    · refine .on rfl (fun a w hS hI hp => does_lit w3.heap.size 45 58 1 _ [(0, .int .u64 1)] [1] rfl (by kernel_rfl) (by rw [Array.toList_map]; exact (show [(0, a.eval (.const (.int .u64 1)))] = _ from (li_cons (rfl) rfl))) (by kernel_rfl) rfl (hI.2).size (Nat.le_of_ble_eq_true rfl)) ?_
      refine .on rfl (fun a w hS hI hp => (IsC.of_r (hp.V 0 rfl rfl)).elim fun A_ h_ => h_.elim fun c_ h_ => h_.elim fun hv_ h_ => h_.elim fun hl_ hc_ => does_call (by kernel_rfl) (ar1 (hv_)) ((tlv_Path.calls k _ _ [1] t5_1 t5_2 t5_3 _ hc_ hl_ At5).mono fun _ _ h => ⟨_, h.1, h.2, rfl⟩)) ?_
      refine .mv 1 rfl rfl rfl rfl ?_
      iterate 2 refine .on rfl (fun a w hS hI hp => does_val (x_extract rfl (hp.V 2 rfl rfl) rfl) rfl) ?_
      refine .on rfl (fun a w hS hI hp => does_var (x_alloc rfl (by kernel_rfl)) (hI.2).size) ?_
      exact .nil
    clear hS
    intro at6 w7 hS hI hp
    have hBw7_w := hI.1
    have hBw7_w3 := hI.2
    have hv8 : sl _ 8 = .agg #[.int .i64 t5_1, .string t5_2] := hp 3 (by decide)
    have hv9 : sl _ 9 = .bool t5_3 := hp 4 (by decide)
    obtain ⟨g8, hv1, hgeg8, hbxg8⟩ := (show IsB _ 26 _ (sl _ 1) _ from hp 5 (by decide))
    have hBw7_w7 := Below.refl w7.heap.size w7
    have hS := hS.cons hv8
    have hS := hS.cons hv9
    have hS := hS.cons hv1
    clear hp hI hv8 hv9 hv1
    show wpList _ _ _ [_, _] _ _
    refine list_step rfl (does_storeAll (g := g8) (cs := #[.int .i64 t5_1, .string t5_2]) rfl (hS.get 0 rfl) (hS.get 2 rfl) ((hBw7_w7.block g8 (blk_lt hbxg8)).trans hbxg8) (by kernel_rfl) (by kernel_rfl) (by kernel_rfl)) ?_
    rintro vw9 w9 ⟨rfl, hbxw9, hT⟩
    have hBw9_w := hT.below hBw7_w (Nat.le_trans (hBw3_w).size hgeg8) (hBw7_w).size
    have hBw9_w3 := hT.below hBw7_w3 hgeg8 (hBw7_w3).size
    have hBw9_w9 := Below.refl w9.heap.size w9
    clear hT
    refine list_step rfl (R := fun v w' => Below _ _ w' ∧ (VB t5_3) v w') (does_val (x_assign rfl (hS.get 1 rfl)) rfl) ?_
    rintro vw10 w10 ⟨hb, he⟩
    have hBw10_w := below_step hBw9_w hb
    have hBw10_w3 := below_step hBw9_w3 hb
    have hBw10_w9 := below_step hBw9_w9 hb
    have hBw10_w10 := Below.refl w10.heap.size w10
    obtain rfl : vw10 = .bool t5_3 := he
    refine hS.next (v := .bool t5_3) (d := 2) rfl (by decide) (by rfl) ?_
    clear hS
    intro at11 hS
    refine wpList_nil ?_
    refine hK4 _ _ ?_
    (try clear hK4 K4)
    refine wp_seq_k (fun K12 hK12 => ?_)
    refine reg_seq (N := 31) (bs := [(2, .bool t5_3), (1, .pointer (some ⟨g8, 0, none⟩)), (9, .bool t5_3), (8, .agg #[.int .i64 t5_1, .string t5_2])]) (I := fun x => Below w.heap.size w x ∧ Below w3.heap.size w3 x ∧ Below w9.heap.size w9 x ∧ Below w10.heap.size w10 x) (ps := [IsV (.agg #[.int .i64 t5_1, .string t5_2]), IsR k26 26 w10.heap.size [(⟨t5_1, t5_2⟩ : S26)], IsT (fun v0_ => #[v0_, .bool t13_2]) (IsC (Kd.int .u8) t13_1), IsT (fun v0_ => #[v0_, .bool t13_2]) (IsC (Kd.int .u8) t13_1), IsC (Kd.int .u8) t13_1, VB t13_2, IsC (Kd.int .u8) t13_1, VB t13_2]) (by kernel_rfl) ?_ ?_ rfl hS ⟨hBw10_w, hBw10_w3, hBw10_w9, hBw10_w10⟩ ?_ ?_
    · exact fun x y hI hb => ⟨below_step hI.1 hb, below_step hI.2.1 hb, below_step hI.2.2.1 hb, below_step hI.2.2.2 hb⟩
    · exact .v (.cons (Stays.r _ _ _ _) (.cons (Stays.t _ (Stays.c _ _)) (.cons (Stays.t _ (Stays.c _ _)) (.cons (Stays.c _ _) (.v (.cons (Stays.c _ _) (.v (.nil))))))))
    · refine .on rfl (fun a w hS hI hp => does_loadrow rfl (hS.get 1 rfl) (((hI.2.2.1).block g8 (blk_lt hbxw9)).trans hbxw9) Try.underlying26 rfl (by kernel_rfl) rfl) ?_
      refine .on rfl (fun a w hS hI hp => does_litT carillonlaw08_awake.flat26 w10.heap.size 22 26 _ [(0, .agg #[.int .i64 t5_1, .string t5_2])] (⟨t5_1, t5_2⟩ : S26) rfl (by kernel_rfl) (by rw [Array.toList_map]; exact (show [(0, a.eval (.tmp 11))] = _ from (li_cons (hp.V 0 rfl rfl) rfl))) (by kernel_rfl) (hI.2.2.2).size) ?_
      refine .on rfl (fun a w hS hI hp => (IsC.of_r (hp.V 1 rfl rfl)).elim fun A_ h_ => h_.elim fun c_ h_ => h_.elim fun hv_ h_ => h_.elim fun hl_ hc_ => does_call (by kernel_rfl) (ar2 (rfl) (hv_)) ((tlv_Put.calls k _ _ [] _ _ [(⟨t5_1, t5_2⟩ : S26)] t13_1 t13_2 _ (Kd.C_nil _ _) (Nat.le_refl _) hc_ hl_ At13).mono fun _ _ h => h.elim fun v0 h => ⟨_, h.1, h.2.2, v0, rfl, h.2.1⟩)) ?_
      refine .on rfl (fun a w hS hI hp => does_val (x_move rfl rfl) (hp.V 2 rfl rfl)) ?_
      refine .on rfl (fun a w hS hI hp => (hp.V 3 rfl rfl).elim fun v0 h0 => does_val (x_extract rfl h0.1 rfl) h0.2) ?_
      refine .on rfl (fun a w hS hI hp => (hp.V 3 rfl rfl).elim fun v0 h0 => does_val (x_extract rfl h0.1 rfl) rfl) ?_
      refine .on rfl (fun a w hS hI hp => does_val (x_assign rfl rfl) (hp.V 4 rfl rfl)) ?_
      refine .asg 5 rfl rfl rfl rfl ?_
      exact .nil
    clear hS
    intro at14 w15 hS hI hp
    have hBw15_w := hI.1
    have hBw15_w3 := hI.2.1
    have hBw15_w9 := hI.2.2.1
    have hBw15_w10 := hI.2.2.2
    replace hS := (hS.nil).cons (hS.get 0 rfl)
    obtain ⟨A16, C16, hv3, hl16, hc16⟩ := (show IsC (Kd.int .u8) t13_1 (sl _ 3) w15 from hp 6 (by decide))
    have hv4 : sl _ 4 = .bool t13_2 := hp 7 (by decide)
    have hBw15_w15 := Below.refl w15.heap.size w15
    have hS := hS.cons hv3
    have hS := hS.cons hv4
    clear hp hI hv3 hv4
    refine hK12 _ _ ?_
    (try clear hK12 K12)
    refine wp_seq_k (fun K17 hK17 => ?_)
    refine reg_seq (N := 31) (bs := [(4, .bool t13_2), (3, .slice A16 t13_1.length C16), (2, .bool t5_3)]) (I := fun x => Below w.heap.size w x ∧ Below w3.heap.size w3 x ∧ Below w9.heap.size w9 x ∧ Below w15.heap.size w15 x) (ps := [VB t5_3, VB t5_3, VB t13_2, VB t13_2, VB t13_2, IsV (.slice A16 t13_1.length C16), VI (t13_1.length : Int), VB (decide ((t13_1.length : Int) = 12)), VB (decide ((t13_1.length : Int) = 12)), VB (decide ((t13_1.length : Int) = 12)), VU, VU, VU, VU, VB false, VB false]) (by kernel_rfl) ?_ ?_ rfl hS ⟨hBw15_w, hBw15_w3, hBw15_w9, hBw15_w15⟩ ?_ ?_
    · exact fun x y hI hb => ⟨below_step hI.1 hb, below_step hI.2.1 hb, below_step hI.2.2.1 hb, below_step hI.2.2.2 hb⟩
    · exact .v (.v (.v (.v (.v (.v (.v (.v (.v (.v (.v (.v (.v (.v (.v (.v (.nil))))))))))))))))
    · refine .ms 2 rfl rfl rfl ?_
      refine .mv 0 rfl rfl rfl rfl ?_
      refine .oy 1 17 rfl rfl rfl rfl rfl c1 (fun a w hS hI hp => does_val (x_move rfl (hS.get 0 rfl)) rfl) ?_
      refine .pt 1 2 rfl rfl rfl rfl c1 rfl rfl ?_
      refine .mv 3 rfl rfl rfl rfl ?_
      refine .oy 4 20 rfl rfl rfl rfl rfl c2 (fun a w hS hI hp => does_val (x_move rfl (hS.get 1 rfl)) rfl) ?_
      refine .oy 4 20 rfl rfl rfl rfl rfl c2 (fun a w hS hI hp => does_val (x_len (e := 5) rfl (by kernel_rfl) (hp.V 5 rfl rfl)) rfl) ?_
      refine .oy 4 20 rfl rfl rfl rfl rfl c2 (fun a w hS hI hp => does_val (x_bin rfl (hp.V 6 rfl rfl) (rfl) (b_eql _ _ _ _ _ _)) rfl) ?_
      refine .pt 4 7 rfl rfl rfl rfl c2 rfl rfl ?_
      refine .mv 8 rfl rfl rfl rfl ?_
      iterate 4 refine .sn 9 25 rfl rfl rfl rfl rfl ((decide_eq_false c3)) ?_
      refine .pf 9 rfl rfl rfl rfl ((decide_eq_false c3)) (fun _ => rfl) ?_
      refine .asg 14 rfl rfl rfl rfl ?_
      exact .nil
    clear hS
    intro at18 w19 hS hI hp
    have hBw19_w := hI.1
    have hBw19_w3 := hI.2.1
    have hBw19_w9 := hI.2.2.1
    have hBw19_w15 := hI.2.2.2
    replace hS := hS.nil
    have hv0 : sl _ 0 = .bool false := hp 15 (by decide)
    have hBw19_w19 := Below.refl w19.heap.size w19
    have hS := hS.cons hv0
    clear hp hI hv0
    refine hK17 _ _ ?_
    (try clear hK17 K17)
    refine wp_ret ?_
    (try simp only [Exit.then, Exit.inBlock, Exit.jump, Exit.noGoto])
    exact bodyPost_ret (v := .bool false) (results_single rfl (Vals.at (hS.get 0 rfl) .nil)) hS.nodef ⟨rfl, hBw19_w⟩
  rw [if_pos c3] at H
  by_cases c4 : 4 ≤ (t13_1.length : Int)
  rotate_left
  · rw [if_neg c4] at H
    exact absurd H (by simp)
  rw [if_pos c4] at H
  obtain rfl := Option.some.inj H
  refine calls_of_wp (fn := Try.f11) (by kernel_rfl) rfl ?_
  have hS := St.enter #[] 31 (by simp) [] (by simp)
  have HB0 := Below.refl w.heap.size w
  refine wp_seq_k (fun K1 hK1 => ?_)
  refine reg_seq (N := 31) (bs := []) (I := fun x => Below w.heap.size w x) (ps := [VB false]) (by kernel_rfl) ?_ ?_ rfl hS HB0 ?_ ?_
  · exact fun x y hI hb => below_step hI hb
  · exact .v (.nil)
  · refine .on rfl (fun a w hS hI hp => does_val (x_assign rfl (rfl)) rfl) ?_
    exact .nil
  clear hS
  intro at2 w3 hS hI hp
  have hBw3_w := hI
  have hBw3_w3 := Below.refl w3.heap.size w3
  clear hp hI
  refine hK1 _ _ ?_
  (try clear hK1 K1)
  refine wp_seq_k (fun K4 hK4 => ?_)
  refine reg_seq_tail 6 (N := 31) (bs := []) (I := fun x => Below w.heap.size w x ∧ Below w3.heap.size w3 x) (ps := [IsR (Kd.int .u64) 58 w3.heap.size [1], IsV (.tuple #[.agg #[.int .i64 t5_1, .string t5_2], .bool t5_3]), IsV (.tuple #[.agg #[.int .i64 t5_1, .string t5_2], .bool t5_3]), IsV (.agg #[.int .i64 t5_1, .string t5_2]), VB t5_3, IsB #[.int .i64 0, .string (⟨#[]⟩ : ByteArray)] 26 w3.heap.size]) (by kernel_rfl) ?_ ?_ rfl hS ⟨hBw3_w, hBw3_w3⟩ ?_ ?_
  · exact fun x y hI hb => ⟨below_step hI.1 hb, below_step hI.2 hb⟩
  · exact .cons (Stays.r _ _ _ _) (.v (.v (.v (.v (.cons (Stays.b _ _ _) (.nil))))))
  · refine .on rfl (fun a w hS hI hp => does_lit w3.heap.size 45 58 1 _ [(0, .int .u64 1)] [1] rfl (by kernel_rfl) (by rw [Array.toList_map]; exact (show [(0, a.eval (.const (.int .u64 1)))] = _ from (li_cons (rfl) rfl))) (by kernel_rfl) rfl (hI.2).size (Nat.le_of_ble_eq_true rfl)) ?_
    refine .on rfl (fun a w hS hI hp => (IsC.of_r (hp.V 0 rfl rfl)).elim fun A_ h_ => h_.elim fun c_ h_ => h_.elim fun hv_ h_ => h_.elim fun hl_ hc_ => does_call (by kernel_rfl) (ar1 (hv_)) ((tlv_Path.calls k _ _ [1] t5_1 t5_2 t5_3 _ hc_ hl_ At5).mono fun _ _ h => ⟨_, h.1, h.2, rfl⟩)) ?_
    refine .mv 1 rfl rfl rfl rfl ?_
    iterate 2 refine .on rfl (fun a w hS hI hp => does_val (x_extract rfl (hp.V 2 rfl rfl) rfl) rfl) ?_
    refine .on rfl (fun a w hS hI hp => does_var (x_alloc rfl (by kernel_rfl)) (hI.2).size) ?_
    exact .nil
  clear hS
  intro at6 w7 hS hI hp
  have hBw7_w := hI.1
  have hBw7_w3 := hI.2
  have hv8 : sl _ 8 = .agg #[.int .i64 t5_1, .string t5_2] := hp 3 (by decide)
  have hv9 : sl _ 9 = .bool t5_3 := hp 4 (by decide)
  obtain ⟨g8, hv1, hgeg8, hbxg8⟩ := (show IsB _ 26 _ (sl _ 1) _ from hp 5 (by decide))
  have hBw7_w7 := Below.refl w7.heap.size w7
  have hS := hS.cons hv8
  have hS := hS.cons hv9
  have hS := hS.cons hv1
  clear hp hI hv8 hv9 hv1
  show wpList _ _ _ [_, _] _ _
  refine list_step rfl (does_storeAll (g := g8) (cs := #[.int .i64 t5_1, .string t5_2]) rfl (hS.get 0 rfl) (hS.get 2 rfl) ((hBw7_w7.block g8 (blk_lt hbxg8)).trans hbxg8) (by kernel_rfl) (by kernel_rfl) (by kernel_rfl)) ?_
  rintro vw9 w9 ⟨rfl, hbxw9, hT⟩
  have hBw9_w := hT.below hBw7_w (Nat.le_trans (hBw3_w).size hgeg8) (hBw7_w).size
  have hBw9_w3 := hT.below hBw7_w3 hgeg8 (hBw7_w3).size
  have hBw9_w9 := Below.refl w9.heap.size w9
  clear hT
  refine list_step rfl (R := fun v w' => Below _ _ w' ∧ (VB t5_3) v w') (does_val (x_assign rfl (hS.get 1 rfl)) rfl) ?_
  rintro vw10 w10 ⟨hb, he⟩
  have hBw10_w := below_step hBw9_w hb
  have hBw10_w3 := below_step hBw9_w3 hb
  have hBw10_w9 := below_step hBw9_w9 hb
  have hBw10_w10 := Below.refl w10.heap.size w10
  obtain rfl : vw10 = .bool t5_3 := he
  refine hS.next (v := .bool t5_3) (d := 2) rfl (by decide) (by rfl) ?_
  clear hS
  intro at11 hS
  refine wpList_nil ?_
  refine hK4 _ _ ?_
  (try clear hK4 K4)
  refine wp_seq_k (fun K12 hK12 => ?_)
  refine reg_seq (N := 31) (bs := [(2, .bool t5_3), (1, .pointer (some ⟨g8, 0, none⟩)), (9, .bool t5_3), (8, .agg #[.int .i64 t5_1, .string t5_2])]) (I := fun x => Below w.heap.size w x ∧ Below w3.heap.size w3 x ∧ Below w9.heap.size w9 x ∧ Below w10.heap.size w10 x) (ps := [IsV (.agg #[.int .i64 t5_1, .string t5_2]), IsR k26 26 w10.heap.size [(⟨t5_1, t5_2⟩ : S26)], IsT (fun v0_ => #[v0_, .bool t13_2]) (IsC (Kd.int .u8) t13_1), IsT (fun v0_ => #[v0_, .bool t13_2]) (IsC (Kd.int .u8) t13_1), IsC (Kd.int .u8) t13_1, VB t13_2, IsC (Kd.int .u8) t13_1, VB t13_2]) (by kernel_rfl) ?_ ?_ rfl hS ⟨hBw10_w, hBw10_w3, hBw10_w9, hBw10_w10⟩ ?_ ?_
  · exact fun x y hI hb => ⟨below_step hI.1 hb, below_step hI.2.1 hb, below_step hI.2.2.1 hb, below_step hI.2.2.2 hb⟩
  · exact .v (.cons (Stays.r _ _ _ _) (.cons (Stays.t _ (Stays.c _ _)) (.cons (Stays.t _ (Stays.c _ _)) (.cons (Stays.c _ _) (.v (.cons (Stays.c _ _) (.v (.nil))))))))
  · refine .on rfl (fun a w hS hI hp => does_loadrow rfl (hS.get 1 rfl) (((hI.2.2.1).block g8 (blk_lt hbxw9)).trans hbxw9) Try.underlying26 rfl (by kernel_rfl) rfl) ?_
    refine .on rfl (fun a w hS hI hp => does_litT carillonlaw08_awake.flat26 w10.heap.size 22 26 _ [(0, .agg #[.int .i64 t5_1, .string t5_2])] (⟨t5_1, t5_2⟩ : S26) rfl (by kernel_rfl) (by rw [Array.toList_map]; exact (show [(0, a.eval (.tmp 11))] = _ from (li_cons (hp.V 0 rfl rfl) rfl))) (by kernel_rfl) (hI.2.2.2).size) ?_
    refine .on rfl (fun a w hS hI hp => (IsC.of_r (hp.V 1 rfl rfl)).elim fun A_ h_ => h_.elim fun c_ h_ => h_.elim fun hv_ h_ => h_.elim fun hl_ hc_ => does_call (by kernel_rfl) (ar2 (rfl) (hv_)) ((tlv_Put.calls k _ _ [] _ _ [(⟨t5_1, t5_2⟩ : S26)] t13_1 t13_2 _ (Kd.C_nil _ _) (Nat.le_refl _) hc_ hl_ At13).mono fun _ _ h => h.elim fun v0 h => ⟨_, h.1, h.2.2, v0, rfl, h.2.1⟩)) ?_
    refine .on rfl (fun a w hS hI hp => does_val (x_move rfl rfl) (hp.V 2 rfl rfl)) ?_
    refine .on rfl (fun a w hS hI hp => (hp.V 3 rfl rfl).elim fun v0 h0 => does_val (x_extract rfl h0.1 rfl) h0.2) ?_
    refine .on rfl (fun a w hS hI hp => (hp.V 3 rfl rfl).elim fun v0 h0 => does_val (x_extract rfl h0.1 rfl) rfl) ?_
    refine .on rfl (fun a w hS hI hp => does_val (x_assign rfl rfl) (hp.V 4 rfl rfl)) ?_
    refine .asg 5 rfl rfl rfl rfl ?_
    exact .nil
  clear hS
  intro at14 w15 hS hI hp
  have hBw15_w := hI.1
  have hBw15_w3 := hI.2.1
  have hBw15_w9 := hI.2.2.1
  have hBw15_w10 := hI.2.2.2
  replace hS := (hS.nil).cons (hS.get 0 rfl)
  obtain ⟨A16, C16, hv3, hl16, hc16⟩ := (show IsC (Kd.int .u8) t13_1 (sl _ 3) w15 from hp 6 (by decide))
  have hv4 : sl _ 4 = .bool t13_2 := hp 7 (by decide)
  have hBw15_w15 := Below.refl w15.heap.size w15
  have hS := hS.cons hv3
  have hS := hS.cons hv4
  clear hp hI hv3 hv4
  refine hK12 _ _ ?_
  (try clear hK12 K12)
  refine wp_seq_k (fun K17 hK17 => ?_)
  refine reg_seq (N := 31) (bs := [(4, .bool t13_2), (3, .slice A16 t13_1.length C16), (2, .bool t5_3)]) (I := fun x => Below w.heap.size w x ∧ Below w3.heap.size w3 x ∧ Below w9.heap.size w9 x ∧ Below w15.heap.size w15 x) (ps := [VB t5_3, VB t5_3, VB t13_2, VB t13_2, VB t13_2, IsV (.slice A16 t13_1.length C16), VI (t13_1.length : Int), VB (decide ((t13_1.length : Int) = 12)), VB (decide ((t13_1.length : Int) = 12)), VB (decide ((t13_1.length : Int) = 12)), IsV (.slice A16 t13_1.length C16), IsV (.slice A16 ((t13_1.take (4 : Int).toNat).length) C16), IsV (.string (strOfNums (t13_1.take (4 : Int).toNat))), VB ((strOfNums (t13_1.take (4 : Int).toNat)).toList == (⟨#[0, 8, 0, 8]⟩ : ByteArray).toList), VB ((strOfNums (t13_1.take (4 : Int).toNat)).toList == (⟨#[0, 8, 0, 8]⟩ : ByteArray).toList), VB ((strOfNums (t13_1.take (4 : Int).toNat)).toList == (⟨#[0, 8, 0, 8]⟩ : ByteArray).toList)]) (by kernel_rfl) ?_ ?_ rfl hS ⟨hBw15_w, hBw15_w3, hBw15_w9, hBw15_w15⟩ ?_ ?_
  · exact fun x y hI hb => ⟨below_step hI.1 hb, below_step hI.2.1 hb, below_step hI.2.2.1 hb, below_step hI.2.2.2 hb⟩
  · exact .v (.v (.v (.v (.v (.v (.v (.v (.v (.v (.v (.v (.v (.v (.v (.v (.nil))))))))))))))))
  · refine .ms 2 rfl rfl rfl ?_
    refine .mv 0 rfl rfl rfl rfl ?_
    refine .oy 1 17 rfl rfl rfl rfl rfl c1 (fun a w hS hI hp => does_val (x_move rfl (hS.get 0 rfl)) rfl) ?_
    refine .pt 1 2 rfl rfl rfl rfl c1 rfl rfl ?_
    refine .mv 3 rfl rfl rfl rfl ?_
    refine .oy 4 20 rfl rfl rfl rfl rfl c2 (fun a w hS hI hp => does_val (x_move rfl (hS.get 1 rfl)) rfl) ?_
    refine .oy 4 20 rfl rfl rfl rfl rfl c2 (fun a w hS hI hp => does_val (x_len (e := 5) rfl (by kernel_rfl) (hp.V 5 rfl rfl)) rfl) ?_
    refine .oy 4 20 rfl rfl rfl rfl rfl c2 (fun a w hS hI hp => does_val (x_bin rfl (hp.V 6 rfl rfl) (rfl) (b_eql _ _ _ _ _ _)) rfl) ?_
    refine .pt 4 7 rfl rfl rfl rfl c2 rfl rfl ?_
    refine .mv 8 rfl rfl rfl rfl ?_
    refine .oy 9 25 rfl rfl rfl rfl rfl ((decide_eq_true c3)) (fun a w hS hI hp => does_val (x_move rfl (hS.get 1 rfl)) rfl) ?_
    refine .oy 9 25 rfl rfl rfl rfl rfl ((decide_eq_true c3)) (fun a w hS hI hp => does_val (x_cuthi rfl (e := 5) (xs := t13_1) (by kernel_rfl) (by kernel_rfl) (hp.V 10 rfl rfl) (rfl) (by decide) c4 hl16) rfl) ?_
    refine .oy 9 25 rfl rfl rfl rfl rfl ((decide_eq_true c3)) (fun a w hS hI hp => does_val (x_conv rfl (hp.V 11 rfl rfl) (Kd.C_string (by kernel_rfl) (e := 5) (by kernel_rfl) (by kernel_rfl) (Kd.C_take (m := (4 : Int).toNat) (Kd.C_below hc16 hI.2.2.2) (by have := c4; omega)))) rfl) ?_
    refine .oy 9 25 rfl rfl rfl rfl rfl ((decide_eq_true c3)) (fun a w hS hI hp => does_val (x_bin rfl (hp.V 12 rfl rfl) (rfl) (b_eqs _ _ _ _ _)) rfl) ?_
    refine .pt 9 13 rfl rfl rfl rfl ((decide_eq_true c3)) rfl rfl ?_
    refine .asg 14 rfl rfl rfl rfl ?_
    exact .nil
  clear hS
  intro at18 w19 hS hI hp
  have hBw19_w := hI.1
  have hBw19_w3 := hI.2.1
  have hBw19_w9 := hI.2.2.1
  have hBw19_w15 := hI.2.2.2
  replace hS := hS.nil
  have hv0 : sl _ 0 = .bool ((strOfNums (t13_1.take (4 : Int).toNat)).toList == (⟨#[0, 8, 0, 8]⟩ : ByteArray).toList) := hp 15 (by decide)
  have hBw19_w19 := Below.refl w19.heap.size w19
  have hS := hS.cons hv0
  clear hp hI hv0
  refine hK17 _ _ ?_
  (try clear hK17 K17)
  refine wp_ret ?_
  (try simp only [Exit.then, Exit.inBlock, Exit.jump, Exit.noGoto])
  exact bodyPost_ret (v := .bool ((strOfNums (t13_1.take (4 : Int).toNat)).toList == (⟨#[0, 8, 0, 8]⟩ : ByteArray).toList)) (results_single rfl (Vals.at (hS.get 0 rfl) .nil)) hS.nodef ⟨rfl, hBw19_w⟩
/-! ### tlv_Find: function 12 -/
/-! ### carillonlaw00_Tlvs: function 13 -/
/-! ### carillonref08_Check: function 17 -/
/-! ### carillonref01_Put: function 41 -/
/-! ### carillonref08_Put: function 15: by our own printer -/
end Go.Proofs.Ytgmiokocipmbaaa.P
