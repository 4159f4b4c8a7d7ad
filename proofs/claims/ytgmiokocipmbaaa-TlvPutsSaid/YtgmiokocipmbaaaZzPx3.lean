/- Functions and loops of the given program as Lean functions, and that the code comes to what they say: written by this session's own program; Lean checks it. -/
import Derived.Test.YtgmiokocipmbaaaZzPx0
import Derived.Test.YtgmiokocipmbaaaZzPx2
namespace Go.Proofs.Ytgmiokocipmbaaa.P
open Go.RowKit Go.Proofs.YtgmiokocipmbaaaW.PrintWords Go.Proofs.YtgmiokocipmbaaaW.PrintLast Go.Proofs.YtgmiokocipmbaaaW.PrintMore
attribute [local go_sem] max2_int min2_int max_two min_two max_three min_three max_four min_four   -- for this text's walks alone
set_option linter.unusedVariables false
set_option linter.unusedSimpArgs false
/-! ### carillonlaw08_awake: function 11: by our own printer -/
def carillonlaw08_awake.f (k : Nat)  : Option (Bool) := (tlv_Path.f k [1]).bind fun t5 => ((tlv_Put.f k [] [(⟨t5.1, t5.2.1⟩ : S26)]).bind fun t13 => (if t5.2.2 = true then (if t13.2 = true then (if (t13.1.length : Int) = 12 then (if 4 ≤ (t13.1.length : Int) then (some ((strOfNums (t13.1.take (4 : Int).toNat)).toList == (⟨#[0, 8, 0, 8]⟩ : ByteArray).toList)) else (none)) else (some false)) else (some false)) else (some false)))
open Go.Proofs.Ytgmiokocipmbaaa.E in
theorem carillonlaw08_awake.flat26 : Flat k26 (fun x => [.int .i64 x.f0, .string x.f1]) := ⟨fun w x cs h => k26_open h, fun w base x => k26_mkM w base _ x⟩
open Go.Proofs.Ytgmiokocipmbaaa.E in
set_option maxHeartbeats 60000000 in
set_option maxRecDepth 100000 in
theorem carillonlaw08_awake.calls (k : Nat) (r : Bool) (w : World) (h : carillonlaw08_awake.f k  = some r) :
    Calls Try.prog 11 #[] w fun e w' => e = .returned (.bool r) ∧ Below w.heap.size w w' := by
  have H := h
  clear h
  unfold carillonlaw08_awake.f at H
  obtain ⟨t5, At5, H⟩ := Option.bind_eq_some_iff.mp H
  obtain ⟨t5_1, t5_2, t5_3⟩ := t5
  (try dsimp only at H)
  obtain ⟨t13, At13, H⟩ := Option.bind_eq_some_iff.mp H
  obtain ⟨t13_1, t13_2⟩ := t13
  (try dsimp only at H)
  by_cases c1 : t5_3 = true
  rotate_left
  · rw [if_neg c1] at H
    obtain rfl := Option.some.inj H
    refine calls_of_wp (fn := Try.f11) (by kernel_rfl) rfl ?_
    have hS := St.enter #[] 31 (by simp) [] (by simp)
    have HB0 := Below.refl w.heap.size w
    refine wp_seq_k (fun K1 hK1 => ?_)
    refine reg_seq (N := 31) (bs := []) (I := fun x => Below w.heap.size w x) (ps := [VB false]) (by kernel_rfl) ?_ ?_ rfl hS HB0 ?_ ?_
    · exact fun x y hI hb => below_step hI hb
    · exact .v (.nil)
    · refine .on rfl (fun a w hS hI hp => does_val (x_assign rfl (rfl)) rfl) ?_
      exact .nil
    clear hS
    intro at2 w3 hS hI hp
    have hBw3_w := hI
    have hBw3_w3 := Below.refl w3.heap.size w3
    clear hp hI
    refine hK1 _ _ ?_
    (try clear hK1 K1)
    refine wp_seq_k (fun K4 hK4 => ?_)
    refine reg_seq_tail 6 (N := 31) (bs := []) (I := fun x => Below w.heap.size w x ∧ Below w3.heap.size w3 x) (ps := [IsR (Kd.int .u64) 58 w3.heap.size [1], IsV (.tuple #[.agg #[.int .i64 t5_1, .string t5_2], .bool t5_3]), IsV (.tuple #[.agg #[.int .i64 t5_1, .string t5_2], .bool t5_3]), IsV (.agg #[.int .i64 t5_1, .string t5_2]), VB t5_3, IsB #[.int .i64 0, .string (⟨#[]⟩ : ByteArray)] 26 w3.heap.size]) (by kernel_rfl) ?_ ?_ rfl hS ⟨hBw3_w, hBw3_w3⟩ ?_ ?_
    · exact fun x y hI hb => ⟨below_step hI.1 hb, below_step hI.2 hb⟩
    · exact .cons (Stays.r _ _ _ _) (.v (.v (.v (.v (.cons (Stays.b _ _ _) (.nil))))))
    · refine .on rfl (fun a w hS hI hp => does_lit w3.heap.size 45 58 1 _ [(0, .int .u64 1)] [1] rfl (by kernel_rfl) (by rw [Array.toList_map]; exact (show [(0, a.eval (.const (.int .u64 1)))] = _ from (li_cons (rfl) rfl))) (by kernel_rfl) rfl (hI.2).size (Nat.le_of_ble_eq_true rfl)) ?_
      refine .on rfl (fun a w hS hI hp => (IsC.of_r (hp.V 0 rfl rfl)).elim fun A_ h_ => h_.elim fun c_ h_ => h_.elim fun hv_ h_ => h_.elim fun hl_ hc_ => does_call (by kernel_rfl) (ar1 (hv_)) ((tlv_Path.calls k _ _ [1] t5_1 t5_2 t5_3 _ hc_ hl_ At5).mono fun _ _ h => ⟨_, h.1, h.2, rfl⟩)) ?_
      refine .mv 1 rfl rfl rfl rfl ?_
      iterate 2 refine .on rfl (fun a w hS hI hp => does_val (x_extract rfl (hp.V 2 rfl rfl) rfl) rfl) ?_
      refine .on rfl (fun a w hS hI hp => does_var (x_alloc rfl (by kernel_rfl)) (hI.2).size) ?_
      exact .nil
    clear hS
    intro at6 w7 hS hI hp
    have hBw7_w := hI.1
    have hBw7_w3 := hI.2
    have hv8 : sl _ 8 = .agg #[.int .i64 t5_1, .string t5_2] := hp 3 (by decide)
    have hv9 : sl _ 9 = .bool t5_3 := hp 4 (by decide)
    obtain ⟨g8, hv1, hgeg8, hbxg8⟩ := (show IsB _ 26 _ (sl _ 1) _ from hp 5 (by decide))
    have hBw7_w7 := Below.refl w7.heap.size w7
    have hS := hS.cons hv8
    have hS := hS.cons hv9
    have hS := hS.cons hv1
    clear hp hI hv8 hv9 hv1
    show wpList _ _ _ [_, _] _ _
    refine list_step rfl (does_storeAll (g := g8) (cs := #[.int .i64 t5_1, .string t5_2]) rfl (hS.get 0 rfl) (hS.get 2 rfl) ((hBw7_w7.block g8 (blk_lt hbxg8)).trans hbxg8) (by kernel_rfl) (by kernel_rfl) (by kernel_rfl)) ?_
    rintro vw9 w9 ⟨rfl, hbxw9, hT⟩
    have hBw9_w := hT.below hBw7_w (Nat.le_trans (hBw3_w).size hgeg8) (hBw7_w).size
    have hBw9_w3 := hT.below hBw7_w3 hgeg8 (hBw7_w3).size
    have hBw9_w9 := Below.refl w9.heap.size w9
    clear hT
    refine list_step rfl (R := fun v w' => Below _ _ w' ∧ (VB t5_3) v w') (does_val (x_assign rfl (hS.get 1 rfl)) rfl) ?_
    rintro vw10 w10 ⟨hb, he⟩
    have hBw10_w := below_step hBw9_w hb
    have hBw10_w3 := below_step hBw9_w3 hb
    have hBw10_w9 := below_step hBw9_w9 hb
    have hBw10_w10 := Below.refl w10.heap.size w10
    obtain rfl : vw10 = .bool t5_3 := he
    refine hS.next (v := .bool t5_3) (d := 2) rfl (by decide) (by rfl) ?_
    clear hS
    intro at11 hS
    refine wpList_nil ?_
    refine hK4 _ _ ?_
    (try clear hK4 K4)
    refine wp_seq_k (fun K12 hK12 => ?_)
    refine reg_seq (N := 31) (bs := [(2, .bool t5_3), (1, .pointer (some ⟨g8, 0, none⟩)), (9, .bool t5_3), (8, .agg #[.int .i64 t5_1, .string t5_2])]) (I := fun x => Below w.heap.size w x ∧ Below w3.heap.size w3 x ∧ Below w9.heap.size w9 x ∧ Below w10.heap.size w10 x) (ps := [IsV (.agg #[.int .i64 t5_1, .string t5_2]), IsR k26 26 w10.heap.size [(⟨t5_1, t5_2⟩ : S26)], IsT (fun v0_ => #[v0_, .bool t13_2]) (IsC (Kd.int .u8) t13_1), IsT (fun v0_ => #[v0_, .bool t13_2]) (IsC (Kd.int .u8) t13_1), IsC (Kd.int .u8) t13_1, VB t13_2, IsC (Kd.int .u8) t13_1, VB t13_2]) (by kernel_rfl) ?_ ?_ rfl hS ⟨hBw10_w, hBw10_w3, hBw10_w9, hBw10_w10⟩ ?_ ?_
    · exact fun x y hI hb => ⟨below_step hI.1 hb, below_step hI.2.1 hb, below_step hI.2.2.1 hb, below_step hI.2.2.2 hb⟩
    · exact .v (.cons (Stays.r _ _ _ _) (.cons (Stays.t _ (Stays.c _ _)) (.cons (Stays.t _ (Stays.c _ _)) (.cons (Stays.c _ _) (.v (.cons (Stays.c _ _) (.v (.nil))))))))
    · refine .on rfl (fun a w hS hI hp => does_loadrow rfl (hS.get 1 rfl) (((hI.2.2.1).block g8 (blk_lt hbxw9)).trans hbxw9) Try.underlying26 rfl (by kernel_rfl) rfl) ?_
      refine .on rfl (fun a w hS hI hp => does_litT carillonlaw08_awake.flat26 w10.heap.size 22 26 _ [(0, .agg #[.int .i64 t5_1, .string t5_2])] (⟨t5_1, t5_2⟩ : S26) rfl (by kernel_rfl) (by rw [Array.toList_map]; exact (show [(0, a.eval (.tmp 11))] = _ from (li_cons (hp.V 0 rfl rfl) rfl))) (by kernel_rfl) (hI.2.2.2).size) ?_
      refine .on rfl (fun a w hS hI hp => (IsC.of_r (hp.V 1 rfl rfl)).elim fun A_ h_ => h_.elim fun c_ h_ => h_.elim fun hv_ h_ => h_.elim fun hl_ hc_ => does_call (by kernel_rfl) (ar2 (rfl) (hv_)) ((tlv_Put.calls k _ _ [] _ _ [(⟨t5_1, t5_2⟩ : S26)] t13_1 t13_2 _ (Kd.C_nil _ _) (Nat.le_refl _) hc_ hl_ At13).mono fun _ _ h => h.elim fun v0 h => ⟨_, h.1, h.2.2, v0, rfl, h.2.1⟩)) ?_
      refine .on rfl (fun a w hS hI hp => does_val (x_move rfl rfl) (hp.V 2 rfl rfl)) ?_
      refine .on rfl (fun a w hS hI hp => (hp.V 3 rfl rfl).elim fun v0 h0 => does_val (x_extract rfl h0.1 rfl) h0.2) ?_
      refine .on rfl (fun a w hS hI hp => (hp.V 3 rfl rfl).elim fun v0 h0 => does_val (x_extract rfl h0.1 rfl) rfl) ?_
      refine .on rfl (fun a w hS hI hp => does_val (x_assign rfl rfl) (hp.V 4 rfl rfl)) ?_
      refine .asg 5 rfl rfl rfl rfl ?_
      exact .nil
    clear hS
    intro at14 w15 hS hI hp
    have hBw15_w := hI.1
    have hBw15_w3 := hI.2.1
    have hBw15_w9 := hI.2.2.1
    have hBw15_w10 := hI.2.2.2
    replace hS := (hS.nil).cons (hS.get 0 rfl)
    obtain ⟨A16, C16, hv3, hl16, hc16⟩ := (show IsC (Kd.int .u8) t13_1 (sl _ 3) w15 from hp 6 (by decide))
    have hv4 : sl _ 4 = .bool t13_2 := hp 7 (by decide)
    have hBw15_w15 := Below.refl w15.heap.size w15
    have hS := hS.cons hv3
    have hS := hS.cons hv4
    clear hp hI hv3 hv4
    refine hK12 _ _ ?_
    (try clear hK12 K12)
    refine wp_seq_k (fun K17 hK17 => ?_)
    refine reg_seq (N := 31) (bs := [(4, .bool t13_2), (3, .slice A16 t13_1.length C16), (2, .bool t5_3)]) (I := fun x => Below w.heap.size w x ∧ Below w3.heap.size w3 x ∧ Below w9.heap.size w9 x ∧ Below w15.heap.size w15 x) (ps := [VB t5_3, VB t5_3, VU, VB false, VB false, VU, VU, VU, VB false, VB false, VU, VU, VU, VU, VB false, VB false]) (by kernel_rfl) ?_ ?_ rfl hS ⟨hBw15_w, hBw15_w3, hBw15_w9, hBw15_w15⟩ ?_ ?_
    · exact fun x y hI hb => ⟨below_step hI.1 hb, below_step hI.2.1 hb, below_step hI.2.2.1 hb, below_step hI.2.2.2 hb⟩
    · exact .v (.v (.v (.v (.v (.v (.v (.v (.v (.v (.v (.v (.v (.v (.v (.v (.nil))))))))))))))))
    · refine .ms 2 rfl rfl rfl ?_
      refine .mv 0 rfl rfl rfl rfl ?_
      refine .sn 1 17 rfl rfl rfl rfl rfl ((Bool.eq_false_iff.2 c1)) ?_
      refine .pf 1 rfl rfl rfl rfl ((Bool.eq_false_iff.2 c1)) (fun _ => rfl) ?_
      refine .mv 3 rfl rfl rfl rfl ?_
      iterate 3 refine .sn 4 20 rfl rfl rfl rfl rfl rfl ?_
      refine .pf 4 rfl rfl rfl rfl rfl (fun _ => rfl) ?_
      refine .mv 8 rfl rfl rfl rfl ?_
      iterate 4 refine .sn 9 25 rfl rfl rfl rfl rfl rfl ?_
      refine .pf 9 rfl rfl rfl rfl rfl (fun _ => rfl) ?_
      refine .asg 14 rfl rfl rfl rfl ?_
      exact .nil
    clear hS
    intro at18 w19 hS hI hp
    have hBw19_w := hI.1
    have hBw19_w3 := hI.2.1
    have hBw19_w9 := hI.2.2.1
    have hBw19_w15 := hI.2.2.2
    replace hS := hS.nil
    have hv0 : sl _ 0 = .bool false := hp 15 (by decide)
    have hBw19_w19 := Below.refl w19.heap.size w19
    have hS := hS.cons hv0
    clear hp hI hv0
    refine hK17 _ _ ?_
    (try clear hK17 K17)
    refine wp_ret ?_
    (try simp only [Exit.then, Exit.inBlock, Exit.jump, Exit.noGoto])
    exact bodyPost_ret (v := .bool false) (results_single rfl (Vals.at (hS.get 0 rfl) .nil)) hS.nodef ⟨rfl, hBw19_w⟩
  rw [if_pos c1] at H
  by_cases c2 : t13_2 = true
  rotate_left
  · rw [if_neg c2] at H
    obtain rfl := Option.some.inj H
    refine calls_of_wp (fn := Try.f11) (by kernel_rfl) rfl ?_
    have hS := St.enter #[] 31 (by simp) [] (by simp)
    have HB0 := Below.refl w.heap.size w
    refine wp_seq_k (fun K1 hK1 => ?_)
    refine reg_seq (N := 31) (bs := []) (I := fun x => Below w.heap.size w x) (ps := [VB false]) (by kernel_rfl) ?_ ?_ rfl hS HB0 ?_ ?_
    · exact fun x y hI hb => below_step hI hb
    · exact .v (.nil)
    · refine .on rfl (fun a w hS hI hp => does_val (x_assign rfl (rfl)) rfl) ?_
      exact .nil
    clear hS
    intro at2 w3 hS hI hp
    have hBw3_w := hI
    have hBw3_w3 := Below.refl w3.heap.size w3
    clear hp hI
    refine hK1 _ _ ?_
    (try clear hK1 K1)
    refine wp_seq_k (fun K4 hK4 => ?_)
    refine reg_seq_tail 6 (N := 31) (bs := []) (I := fun x => Below w.heap.size w x ∧ Below w3.heap.size w3 x) (ps := [IsR (Kd.int .u64) 58 w3.heap.size [1], IsV (.tuple #[.agg #[.int .i64 t5_1, .string t5_2], .bool t5_3]), IsV (.tuple #[.agg #[.int .i64 t5_1, .string t5_2], .bool t5_3]), IsV (.agg #[.int .i64 t5_1, .string t5_2]), VB t5_3, IsB #[.int .i64 0, .string (⟨#[]⟩ : ByteArray)] 26 w3.heap.size]) (by kernel_rfl) ?_ ?_ rfl hS ⟨hBw3_w, hBw3_w3⟩ ?_ ?_
    · exact fun x y hI hb => ⟨below_step hI.1 hb, below_step hI.2 hb⟩
    · exact .cons (Stays.r _ _ _ _) (.v (.v (.v (.v (.cons (Stays.b _ _ _) (.nil))))))
    · refine .on rfl (fun a w hS hI hp => does_lit w3.heap.size 45 58 1 _ [(0, .int .u64 1)] [1] rfl (by kernel_rfl) (by rw [Array.toList_map]; exact (show [(0, a.eval (.const (.int .u64 1)))] = _ from (li_cons (rfl) rfl))) (by kernel_rfl) rfl (hI.2).size (Nat.le_of_ble_eq_true rfl)) ?_
      refine .on rfl (fun a w hS hI hp => (IsC.of_r (hp.V 0 rfl rfl)).elim fun A_ h_ => h_.elim fun c_ h_ => h_.elim fun hv_ h_ => h_.elim fun hl_ hc_ => does_call (by kernel_rfl) (ar1 (hv_)) ((tlv_Path.calls k _ _ [1] t5_1 t5_2 t5_3 _ hc_ hl_ At5).mono fun _ _ h => ⟨_, h.1, h.2, rfl⟩)) ?_
      refine .mv 1 rfl rfl rfl rfl ?_
      iterate 2 refine .on rfl (fun a w hS hI hp => does_val (x_extract rfl (hp.V 2 rfl rfl) rfl) rfl) ?_
      refine .on rfl (fun a w hS hI hp => does_var (x_alloc rfl (by kernel_rfl)) (hI.2).size) ?_
      exact .nil
    clear hS
    intro at6 w7 hS hI hp
    have hBw7_w := hI.1
    have hBw7_w3 := hI.2
    have hv8 : sl _ 8 = .agg #[.int .i64 t5_1, .string t5_2] := hp 3 (by decide)
    have hv9 : sl _ 9 = .bool t5_3 := hp 4 (by decide)
    obtain ⟨g8, hv1, hgeg8, hbxg8⟩ := (show IsB _ 26 _ (sl _ 1) _ from hp 5 (by decide))
    have hBw7_w7 := Below.refl w7.heap.size w7
    have hS := hS.cons hv8
    have hS := hS.cons hv9
    have hS := hS.cons hv1
    clear hp hI hv8 hv9 hv1
    show wpList _ _ _ [_, _] _ _
    refine list_step rfl (does_storeAll (g := g8) (cs := #[.int .i64 t5_1, .string t5_2]) rfl (hS.get 0 rfl) (hS.get 2 rfl) ((hBw7_w7.block g8 (blk_lt hbxg8)).trans hbxg8) (by kernel_rfl) (by kernel_rfl) (by kernel_rfl)) ?_
    rintro vw9 w9 ⟨rfl, hbxw9, hT⟩
    have hBw9_w := hT.below hBw7_w (Nat.le_trans (hBw3_w).size hgeg8) (hBw7_w).size
    have hBw9_w3 := hT.below hBw7_w3 hgeg8 (hBw7_w3).size
    have hBw9_w9 := Below.refl w9.heap.size w9
    clear hT
    refine list_step rfl (R := fun v w' => Below _ _ w' ∧ (VB t5_3) v w') (does_val (x_assign rfl (hS.get 1 rfl)) rfl) ?_
    rintro vw10 w10 ⟨hb, he⟩
    have hBw10_w := below_step hBw9_w hb
    have hBw10_w3 := below_step hBw9_w3 hb
    have hBw10_w9 := below_step hBw9_w9 hb
    have hBw10_w10 := Below.refl w10.heap.size w10
    obtain rfl : vw10 = .bool t5_3 := he
    refine hS.next (v := .bool t5_3) (d := 2) rfl (by decide) (by rfl) ?_
    clear hS
    intro at11 hS
    refine wpList_nil ?_
    refine hK4 _ _ ?_
    (try clear hK4 K4)
    refine wp_seq_k (fun K12 hK12 => ?_)
    refine reg_seq (N := 31) (bs := [(2, .bool t5_3), (1, .pointer (some ⟨g8, 0, none⟩)), (9, .bool t5_3), (8, .agg #[.int .i64 t5_1, .string t5_2])]) (I := fun x => Below w.heap.size w x ∧ Below w3.heap.size w3 x ∧ Below w9.heap.size w9 x ∧ Below w10.heap.size w10 x) (ps := [IsV (.agg #[.int .i64 t5_1, .string t5_2]), IsR k26 26 w10.heap.size [(⟨t5_1, t5_2⟩ : S26)], IsT (fun v0_ => #[v0_, .bool t13_2]) (IsC (Kd.int .u8) t13_1), IsT (fun v0_ => #[v0_, .bool t13_2]) (IsC (Kd.int .u8) t13_1), IsC (Kd.int .u8) t13_1, VB t13_2, IsC (Kd.int .u8) t13_1, VB t13_2]) (by kernel_rfl) ?_ ?_ rfl hS ⟨hBw10_w, hBw10_w3, hBw10_w9, hBw10_w10⟩ ?_ ?_
    · exact fun x y hI hb => ⟨below_step hI.1 hb, below_step hI.2.1 hb, below_step hI.2.2.1 hb, below_step hI.2.2.2 hb⟩
    · exact .v (.cons (Stays.r _ _ _ _) (.cons (Stays.t _ (Stays.c _ _)) (.cons (Stays.t _ (Stays.c _ _)) (.cons (Stays.c _ _) (.v (.cons (Stays.c _ _) (.v (.nil))))))))
    · refine .on rfl (fun a w hS hI hp => does_loadrow rfl (hS.get 1 rfl) (((hI.2.2.1).block g8 (blk_lt hbxw9)).trans hbxw9) Try.underlying26 rfl (by kernel_rfl) rfl) ?_
      refine .on rfl (fun a w hS hI hp => does_litT carillonlaw08_awake.flat26 w10.heap.size 22 26 _ [(0, .agg #[.int .i64 t5_1, .string t5_2])] (⟨t5_1, t5_2⟩ : S26) rfl (by kernel_rfl) (by rw [Array.toList_map]; exact (show [(0, a.eval (.tmp 11))] = _ from (li_cons (hp.V 0 rfl rfl) rfl))) (by kernel_rfl) (hI.2.2.2).size) ?_
      refine .on rfl (fun a w hS hI hp => (IsC.of_r (hp.V 1 rfl rfl)).elim fun A_ h_ => h_.elim fun c_ h_ => h_.elim fun hv_ h_ => h_.elim fun hl_ hc_ => does_call (by kernel_rfl) (ar2 (rfl) (hv_)) ((tlv_Put.calls k _ _ [] _ _ [(⟨t5_1, t5_2⟩ : S26)] t13_1 t13_2 _ (Kd.C_nil _ _) (Nat.le_refl _) hc_ hl_ At13).mono fun _ _ h => h.elim fun v0 h => ⟨_, h.1, h.2.2, v0, rfl, h.2.1⟩)) ?_
      refine .on rfl (fun a w hS hI hp => does_val (x_move rfl rfl) (hp.V 2 rfl rfl)) ?_
      refine .on rfl (fun a w hS hI hp => (hp.V 3 rfl rfl).elim fun v0 h0 => does_val (x_extract rfl h0.1 rfl) h0.2) ?_
      refine .on rfl (fun a w hS hI hp => (hp.V 3 rfl rfl).elim fun v0 h0 => does_val (x_extract rfl h0.1 rfl) rfl) ?_
      refine .on rfl (fun a w hS hI hp => does_val (x_assign rfl rfl) (hp.V 4 rfl rfl)) ?_
      refine .asg 5 rfl rfl rfl rfl ?_
      exact .nil
    clear hS
    intro at14 w15 hS hI hp
    have hBw15_w := hI.1
    have hBw15_w3 := hI.2.1
    have hBw15_w9 := hI.2.2.1
    have hBw15_w10 := hI.2.2.2
    replace hS := (hS.nil).cons (hS.get 0 rfl)
    obtain ⟨A16, C16, hv3, hl16, hc16⟩ := (show IsC (Kd.int .u8) t13_1 (sl _ 3) w15 from hp 6 (by decide))
    have hv4 : sl _ 4 = .bool t13_2 := hp 7 (by decide)
    have hBw15_w15 := Below.refl w15.heap.size w15
    have hS := hS.cons hv3
    have hS := hS.cons hv4
    clear hp hI hv3 hv4
    refine hK12 _ _ ?_
    (try clear hK12 K12)
    refine wp_seq_k (fun K17 hK17 => ?_)
    refine reg_seq (N := 31) (bs := [(4, .bool t13_2), (3, .slice A16 t13_1.length C16), (2, .bool t5_3)]) (I := fun x => Below w.heap.size w x ∧ Below w3.heap.size w3 x ∧ Below w9.heap.size w9 x ∧ Below w15.heap.size w15 x) (ps := [VB t5_3, VB t5_3, VB t13_2, VB t13_2, VB t13_2, VU, VU, VU, VB false, VB false, VU, VU, VU, VU, VB false, VB false]) (by kernel_rfl) ?_ ?_ rfl hS ⟨hBw15_w, hBw15_w3, hBw15_w9, hBw15_w15⟩ ?_ ?_
    · exact fun x y hI hb => ⟨below_step hI.1 hb, below_step hI.2.1 hb, below_step hI.2.2.1 hb, below_step hI.2.2.2 hb⟩
    · exact .v (.v (.v (.v (.v (.v (.v (.v (.v (.v (.v (.v (.v (.v (.v (.v (.nil))))))))))))))))
    · refine .ms 2 rfl rfl rfl ?_
      refine .mv 0 rfl rfl rfl rfl ?_
      refine .oy 1 17 rfl rfl rfl rfl rfl c1 (fun a w hS hI hp => does_val (x_move rfl (hS.get 0 rfl)) rfl) ?_
      refine .pt 1 2 rfl rfl rfl rfl c1 rfl rfl ?_
      refine .mv 3 rfl rfl rfl rfl ?_
      iterate 3 refine .sn 4 20 rfl rfl rfl rfl rfl ((Bool.eq_false_iff.2 c2)) ?_
      refine .pf 4 rfl rfl rfl rfl ((Bool.eq_false_iff.2 c2)) (fun _ => rfl) ?_
      refine .mv 8 rfl rfl rfl rfl ?_
      iterate 4 refine .sn 9 25 rfl rfl rfl rfl rfl rfl ?_
      refine .pf 9 rfl rfl rfl rfl rfl (fun _ => rfl) ?_
      refine .asg 14 rfl rfl rfl rfl ?_
      exact .nil
    clear hS
    intro at18 w19 hS hI hp
    have hBw19_w := hI.1
    have hBw19_w3 := hI.2.1
    have hBw19_w9 := hI.2.2.1
    have hBw19_w15 := hI.2.2.2
    replace hS := hS.nil
    have hv0 : sl _ 0 = .bool false := hp 15 (by decide)
    have hBw19_w19 := Below.refl w19.heap.size w19
    have hS := hS.cons hv0
    clear hp hI hv0
    refine hK17 _ _ ?_
    (try clear hK17 K17)
    refine wp_ret ?_
    (try simp only [Exit.then, Exit.inBlock, Exit.jump, Exit.noGoto])
    exact bodyPost_ret (v := .bool false) (results_single rfl (Vals.at (hS.get 0 rfl) .nil)) hS.nodef ⟨rfl, hBw19_w⟩
  rw [if_pos c2] at H
  by_cases c3 : (t13_1.length : Int) = 12
  rotate_left
  · rw [if_neg c3] at H
    obtain rfl := Option.some.inj H
    refine calls_of_wp (fn := Try.f11) (by kernel_rfl) rfl ?_
    have hS := St.enter #[] 31 (by simp) [] (by simp)
    have HB0 := Below.refl w.heap.size w
    refine wp_seq_k (fun K1 hK1 => ?_)
    refine reg_seq (N := 31) (bs := []) (I := fun x => Below w.heap.size w x) (ps := [VB false]) (by kernel_rfl) ?_ ?_ rfl hS HB0 ?_ ?_
    · exact fun x y hI hb => below_step hI hb
    · exact .v (.nil)
    · refine .on rfl (fun a w hS hI hp => does_val (x_assign rfl (rfl)) rfl) ?_
      exact .nil
    clear hS
    intro at2 w3 hS hI hp
    have hBw3_w := hI
    have hBw3_w3 := Below.refl w3.heap.size w3
    clear hp hI
    refine hK1 _ _ ?_
    (try clear hK1 K1)
    refine wp_seq_k (fun K4 hK4 => ?_)
    refine reg_seq_tail 6 (N := 31) (bs := []) (I := fun x => Below w.heap.size w x ∧ Below w3.heap.size w3 x) (ps := [IsR (Kd.int .u64) 58 w3.heap.size [1], IsV (.tuple #[.agg #[.int .i64 t5_1, .string t5_2], .bool t5_3]), IsV (.tuple #[.agg #[.int .i64 t5_1, .string t5_2], .bool t5_3]), IsV (.agg #[.int .i64 t5_1, .string t5_2]), VB t5_3, IsB #[.int .i64 0, .string (⟨#[]⟩ : ByteArray)] 26 w3.heap.size]) (by kernel_rfl) ?_ ?_ rfl hS ⟨hBw3_w, hBw3_w3⟩ ?_ ?_
    · exact fun x y hI hb => ⟨below_step hI.1 hb, below_step hI.2 hb⟩
    · exact .cons (Stays.r _ _ _ _) (.v (.v (.v (.v (.cons (Stays.b _ _ _) (.nil))))))
    · refine .on rfl (fun a w hS hI hp => does_lit w3.heap.size 45 58 1 _ [(0, .int .u64 1)] [1] rfl (by kernel_rfl) (by rw [Array.toList_map]; exact (show [(0, a.eval (.const (.int .u64 1)))] = _ from (li_cons (rfl) rfl))) (by kernel_rfl) rfl (hI.2).size (Nat.le_of_ble_eq_true rfl)) ?_
      refine .on rfl (fun a w hS hI hp => (IsC.of_r (hp.V 0 rfl rfl)).elim fun A_ h_ => h_.elim fun c_ h_ => h_.elim fun hv_ h_ => h_.elim fun hl_ hc_ => does_call (by kernel_rfl) (ar1 (hv_)) ((tlv_Path.calls k _ _ [1] t5_1 t5_2 t5_3 _ hc_ hl_ At5).mono fun _ _ h => ⟨_, h.1, h.2, rfl⟩)) ?_
      refine .mv 1 rfl rfl rfl rfl ?_
      iterate 2 refine .on rfl (fun a w hS hI hp => does_val (x_extract rfl (hp.V 2 rfl rfl) rfl) rfl) ?_
      refine .on rfl (fun a w hS hI hp => does_var (x_alloc rfl (by kernel_rfl)) (hI.2).size) ?_
      exact .nil
    clear hS
    intro at6 w7 hS hI hp
    have hBw7_w := hI.1
    have hBw7_w3 := hI.2
    have hv8 : sl _ 8 = .agg #[.int .i64 t5_1, .string t5_2] := hp 3 (by decide)
    have hv9 : sl _ 9 = .bool t5_3 := hp 4 (by decide)
    obtain ⟨g8, hv1, hgeg8, hbxg8⟩ := (show IsB _ 26 _ (sl _ 1) _ from hp 5 (by decide))
    have hBw7_w7 := Below.refl w7.heap.size w7
    have hS := hS.cons hv8
    have hS := hS.cons hv9
    have hS := hS.cons hv1
    clear hp hI hv8 hv9 hv1
    show wpList _ _ _ [_, _] _ _
    refine list_step rfl (does_storeAll (g := g8) (cs := #[.int .i64 t5_1, .string t5_2]) rfl (hS.get 0 rfl) (hS.get 2 rfl) ((hBw7_w7.block g8 (blk_lt hbxg8)).trans hbxg8) (by kernel_rfl) (by kernel_rfl) (by kernel_rfl)) ?_
    rintro vw9 w9 ⟨rfl, hbxw9, hT⟩
    have hBw9_w := hT.below hBw7_w (Nat.le_trans (hBw3_w).size hgeg8) (hBw7_w).size
    have hBw9_w3 := hT.below hBw7_w3 hgeg8 (hBw7_w3).size
    have hBw9_w9 := Below.refl w9.heap.size w9
    clear hT
    refine list_step rfl (R := fun v w' => Below _ _ w' ∧ (VB t5_3) v w') (does_val (x_assign rfl (hS.get 1 rfl)) rfl) ?_
    rintro vw10 w10 ⟨hb, he⟩
    have hBw10_w := below_step hBw9_w hb
    have hBw10_w3 := below_step hBw9_w3 hb
    have hBw10_w9 := below_step hBw9_w9 hb
    have hBw10_w10 := Below.refl w10.heap.size w10
    obtain rfl : vw10 = .bool t5_3 := he
    refine hS.next (v := .bool t5_3) (d := 2) rfl (by decide) (by rfl) ?_
    clear hS
    intro at11 hS
    refine wpList_nil ?_
    refine hK4 _ _ ?_
    (try clear hK4 K4)
    refine wp_seq_k (fun K12 hK12 => ?_)
    refine reg_seq (N := 31) (bs := [(2, .bool t5_3), (1, .pointer (some ⟨g8, 0, none⟩)), (9, .bool t5_3), (8, .agg #[.int .i64 t5_1, .string t5_2])]) (I := fun x => Below w.heap.size w x ∧ Below w3.heap.size w3 x ∧ Below w9.heap.size w9 x ∧ Below w10.heap.size w10 x) (ps := [IsV (.agg #[.int .i64 t5_1, .string t5_2]), IsR k26 26 w10.heap.size [(⟨t5_1, t5_2⟩ : S26)], IsT (fun v0_ => #[v0_, .bool t13_2]) (IsC (Kd.int .u8) t13_1), IsT (fun v0_ => #[v0_, .bool t13_2]) (IsC (Kd.int .u8) t13_1), IsC (Kd.int .u8) t13_1, VB t13_2, IsC (Kd.int .u8) t13_1, VB t13_2]) (by kernel_rfl) ?_ ?_ rfl hS ⟨hBw10_w, hBw10_w3, hBw10_w9, hBw10_w10⟩ ?_ ?_
    · exact fun x y hI hb => ⟨below_step hI.1 hb, below_step hI.2.1 hb, below_step hI.2.2.1 hb, below_step hI.2.2.2 hb⟩
    · exact .v (.cons (Stays.r _ _ _ _) (.cons (Stays.t _ (Stays.c _ _)) (.cons (Stays.t _ (Stays.c _ _)) (.cons (Stays.c _ _) (.v (.cons (Stays.c _ _) (.v (.nil))))))))
    · refine .on rfl (fun a w hS hI hp => does_loadrow rfl (hS.get 1 rfl) (((hI.2.2.1).block g8 (blk_lt hbxw9)).trans hbxw9) Try.underlying26 rfl (by kernel_rfl) rfl) ?_
      refine .on rfl (fun a w hS hI hp => does_litT carillonlaw08_awake.flat26 w10.heap.size 22 26 _ [(0, .agg #[.int .i64 t5_1, .string t5_2])] (⟨t5_1, t5_2⟩ : S26) rfl (by kernel_rfl) (by rw [Array.toList_map]; exact (show [(0, a.eval (.tmp 11))] = _ from (li_cons (hp.V 0 rfl rfl) rfl))) (by kernel_rfl) (hI.2.2.2).size) ?_
      refine .on rfl (fun a w hS hI hp => (IsC.of_r (hp.V 1 rfl rfl)).elim fun A_ h_ => h_.elim fun c_ h_ => h_.elim fun hv_ h_ => h_.elim fun hl_ hc_ => does_call (by kernel_rfl) (ar2 (rfl) (hv_)) ((tlv_Put.calls k _ _ [] _ _ [(⟨t5_1, t5_2⟩ : S26)] t13_1 t13_2 _ (Kd.C_nil _ _) (Nat.le_refl _) hc_ hl_ At13).mono fun _ _ h => h.elim fun v0 h => ⟨_, h.1, h.2.2, v0, rfl, h.2.1⟩)) ?_
      refine .on rfl (fun a w hS hI hp => does_val (x_move rfl rfl) (hp.V 2 rfl rfl)) ?_
      refine .on rfl (fun a w hS hI hp => (hp.V 3 rfl rfl).elim fun v0 h0 => does_val (x_extract rfl h0.1 rfl) h0.2) ?_
      refine .on rfl (fun a w hS hI hp => (hp.V 3 rfl rfl).elim fun v0 h0 => does_val (x_extract rfl h0.1 rfl) rfl) ?_
      refine .on rfl (fun a w hS hI hp => does_val (x_assign rfl rfl) (hp.V 4 rfl rfl)) ?_
      refine .asg 5 rfl rfl rfl rfl ?_
      exact .nil
    clear hS
    intro at14 w15 hS hI hp
    have hBw15_w := hI.1
    have hBw15_w3 := hI.2.1
    have hBw15_w9 := hI.2.2.1
    have hBw15_w10 := hI.2.2.2
    replace hS := (hS.nil).cons (hS.get 0 rfl)
    obtain ⟨A16, C16, hv3, hl16, hc16⟩ := (show IsC (Kd.int .u8) t13_1 (sl _ 3) w15 from hp 6 (by decide))
    have hv4 : sl _ 4 = .bool t13_2 := hp 7 (by decide)
    have hBw15_w15 := Below.refl w15.heap.size w15
    have hS := hS.cons hv3
    have hS := hS.cons hv4
    clear hp hI hv3 hv4
    refine hK12 _ _ ?_
    (try clear hK12 K12)
    refine wp_seq_k (fun K17 hK17 => ?_)
    refine reg_seq (N := 31) (bs := [(4, .bool t13_2), (3, .slice A16 t13_1.length C16), (2, .bool t5_3)]) (I := fun x => Below w.heap.size w x ∧ Below w3.heap.size w3 x ∧ Below w9.heap.size w9 x ∧ Below w15.heap.size w15 x) (ps := [VB t5_3, VB t5_3, VB t13_2, VB t13_2, VB t13_2, IsV (.slice A16 t13_1.length C16), VI (t13_1.length : Int), VB (decide ((t13_1.length : Int) = 12)), VB (decide ((t13_1.length : Int) = 12)), VB (decide ((t13_1.length : Int) = 12)), VU, VU, VU, VU, VB false, VB false]) (by kernel_rfl) ?_ ?_ rfl hS ⟨hBw15_w, hBw15_w3, hBw15_w9, hBw15_w15⟩ ?_ ?_
    · exact fun x y hI hb => ⟨below_step hI.1 hb, below_step hI.2.1 hb, below_step hI.2.2.1 hb, below_step hI.2.2.2 hb⟩
    · exact .v (.v (.v (.v (.v (.v (.v (.v (.v (.v (.v (.v (.v (.v (.v (.v (.nil))))))))))))))))
    · refine .ms 2 rfl rfl rfl ?_
      refine .mv 0 rfl rfl rfl rfl ?_
      refine .oy 1 17 rfl rfl rfl rfl rfl c1 (fun a w hS hI hp => does_val (x_move rfl (hS.get 0 rfl)) rfl) ?_
      refine .pt 1 2 rfl rfl rfl rfl c1 rfl rfl ?_
      refine .mv 3 rfl rfl rfl rfl ?_
      refine .oy 4 20 rfl rfl rfl rfl rfl c2 (fun a w hS hI hp => does_val (x_move rfl (hS.get 1 rfl)) rfl) ?_
      refine .oy 4 20 rfl rfl rfl rfl rfl c2 (fun a w hS hI hp => does_val (x_len (e := 5) rfl (by kernel_rfl) (hp.V 5 rfl rfl)) rfl) ?_
      refine .oy 4 20 rfl rfl rfl rfl rfl c2 (fun a w hS hI hp => does_val (x_bin rfl (hp.V 6 rfl rfl) (rfl) (b_eql _ _ _ _ _ _)) rfl) ?_
      refine .pt 4 7 rfl rfl rfl rfl c2 rfl rfl ?_
      refine .mv 8 rfl rfl rfl rfl ?_
      iterate 4 refine .sn 9 25 rfl rfl rfl rfl rfl ((decide_eq_false c3)) ?_
      refine .pf 9 rfl rfl rfl rfl ((decide_eq_false c3)) (fun _ => rfl) ?_
      refine .asg 14 rfl rfl rfl rfl ?_
      exact .nil
    clear hS
    intro at18 w19 hS hI hp
    have hBw19_w := hI.1
    have hBw19_w3 := hI.2.1
    have hBw19_w9 := hI.2.2.1
    have hBw19_w15 := hI.2.2.2
    replace hS := hS.nil
    have hv0 : sl _ 0 = .bool false := hp 15 (by decide)
    have hBw19_w19 := Below.refl w19.heap.size w19
    have hS := hS.cons hv0
    clear hp hI hv0
    refine hK17 _ _ ?_
    (try clear hK17 K17)
    refine wp_ret ?_
    (try simp only [Exit.then, Exit.inBlock, Exit.jump, Exit.noGoto])
    exact bodyPost_ret (v := .bool false) (results_single rfl (Vals.at (hS.get 0 rfl) .nil)) hS.nodef ⟨rfl, hBw19_w⟩
  rw [if_pos c3] at H
  by_cases c4 : 4 ≤ (t13_1.length : Int)
  rotate_left
  · rw [if_neg c4] at H
    exact absurd H (by simp)
  rw [if_pos c4] at H
  obtain rfl := Option.some.inj H
  refine calls_of_wp (fn := Try.f11) (by kernel_rfl) rfl ?_
  have hS := St.enter #[] 31 (by simp) [] (by simp)
  have HB0 := Below.refl w.heap.size w
  refine wp_seq_k (fun K1 hK1 => ?_)
  refine reg_seq (N := 31) (bs := []) (I := fun x => Below w.heap.size w x) (ps := [VB false]) (by kernel_rfl) ?_ ?_ rfl hS HB0 ?_ ?_
  · exact fun x y hI hb => below_step hI hb
  · exact .v (.nil)
  · refine .on rfl (fun a w hS hI hp => does_val (x_assign rfl (rfl)) rfl) ?_
    exact .nil
  clear hS
  intro at2 w3 hS hI hp
  have hBw3_w := hI
  have hBw3_w3 := Below.refl w3.heap.size w3
  clear hp hI
  refine hK1 _ _ ?_
  (try clear hK1 K1)
  refine wp_seq_k (fun K4 hK4 => ?_)
  refine reg_seq_tail 6 (N := 31) (bs := []) (I := fun x => Below w.heap.size w x ∧ Below w3.heap.size w3 x) (ps := [IsR (Kd.int .u64) 58 w3.heap.size [1], IsV (.tuple #[.agg #[.int .i64 t5_1, .string t5_2], .bool t5_3]), IsV (.tuple #[.agg #[.int .i64 t5_1, .string t5_2], .bool t5_3]), IsV (.agg #[.int .i64 t5_1, .string t5_2]), VB t5_3, IsB #[.int .i64 0, .string (⟨#[]⟩ : ByteArray)] 26 w3.heap.size]) (by kernel_rfl) ?_ ?_ rfl hS ⟨hBw3_w, hBw3_w3⟩ ?_ ?_
  · exact fun x y hI hb => ⟨below_step hI.1 hb, below_step hI.2 hb⟩
  · exact .cons (Stays.r _ _ _ _) (.v (.v (.v (.v (.cons (Stays.b _ _ _) (.nil))))))
  · refine .on rfl (fun a w hS hI hp => does_lit w3.heap.size 45 58 1 _ [(0, .int .u64 1)] [1] rfl (by kernel_rfl) (by rw [Array.toList_map]; exact (show [(0, a.eval (.const (.int .u64 1)))] = _ from (li_cons (rfl) rfl))) (by kernel_rfl) rfl (hI.2).size (Nat.le_of_ble_eq_true rfl)) ?_
    refine .on rfl (fun a w hS hI hp => (IsC.of_r (hp.V 0 rfl rfl)).elim fun A_ h_ => h_.elim fun c_ h_ => h_.elim fun hv_ h_ => h_.elim fun hl_ hc_ => does_call (by kernel_rfl) (ar1 (hv_)) ((tlv_Path.calls k _ _ [1] t5_1 t5_2 t5_3 _ hc_ hl_ At5).mono fun _ _ h => ⟨_, h.1, h.2, rfl⟩)) ?_
    refine .mv 1 rfl rfl rfl rfl ?_
    iterate 2 refine .on rfl (fun a w hS hI hp => does_val (x_extract rfl (hp.V 2 rfl rfl) rfl) rfl) ?_
    refine .on rfl (fun a w hS hI hp => does_var (x_alloc rfl (by kernel_rfl)) (hI.2).size) ?_
    exact .nil
  clear hS
  intro at6 w7 hS hI hp
  have hBw7_w := hI.1
  have hBw7_w3 := hI.2
  have hv8 : sl _ 8 = .agg #[.int .i64 t5_1, .string t5_2] := hp 3 (by decide)
  have hv9 : sl _ 9 = .bool t5_3 := hp 4 (by decide)
  obtain ⟨g8, hv1, hgeg8, hbxg8⟩ := (show IsB _ 26 _ (sl _ 1) _ from hp 5 (by decide))
  have hBw7_w7 := Below.refl w7.heap.size w7
  have hS := hS.cons hv8
  have hS := hS.cons hv9
  have hS := hS.cons hv1
  clear hp hI hv8 hv9 hv1
  show wpList _ _ _ [_, _] _ _
  refine list_step rfl (does_storeAll (g := g8) (cs := #[.int .i64 t5_1, .string t5_2]) rfl (hS.get 0 rfl) (hS.get 2 rfl) ((hBw7_w7.block g8 (blk_lt hbxg8)).trans hbxg8) (by kernel_rfl) (by kernel_rfl) (by kernel_rfl)) ?_
  rintro vw9 w9 ⟨rfl, hbxw9, hT⟩
  have hBw9_w := hT.below hBw7_w (Nat.le_trans (hBw3_w).size hgeg8) (hBw7_w).size
  have hBw9_w3 := hT.below hBw7_w3 hgeg8 (hBw7_w3).size
  have hBw9_w9 := Below.refl w9.heap.size w9
  clear hT
  refine list_step rfl (R := fun v w' => Below _ _ w' ∧ (VB t5_3) v w') (does_val (x_assign rfl (hS.get 1 rfl)) rfl) ?_
  rintro vw10 w10 ⟨hb, he⟩
  have hBw10_w := below_step hBw9_w hb
  have hBw10_w3 := below_step hBw9_w3 hb
  have hBw10_w9 := below_step hBw9_w9 hb
  have hBw10_w10 := Below.refl w10.heap.size w10
  obtain rfl : vw10 = .bool t5_3 := he
  refine hS.next (v := .bool t5_3) (d := 2) rfl (by decide) (by rfl) ?_
  clear hS
  intro at11 hS
  refine wpList_nil ?_
  refine hK4 _ _ ?_
  (try clear hK4 K4)
  refine wp_seq_k (fun K12 hK12 => ?_)
  refine reg_seq (N := 31) (bs := [(2, .bool t5_3), (1, .pointer (some ⟨g8, 0, none⟩)), (9, .bool t5_3), (8, .agg #[.int .i64 t5_1, .string t5_2])]) (I := fun x => Below w.heap.size w x ∧ Below w3.heap.size w3 x ∧ Below w9.heap.size w9 x ∧ Below w10.heap.size w10 x) (ps := [IsV (.agg #[.int .i64 t5_1, .string t5_2]), IsR k26 26 w10.heap.size [(⟨t5_1, t5_2⟩ : S26)], IsT (fun v0_ => #[v0_, .bool t13_2]) (IsC (Kd.int .u8) t13_1), IsT (fun v0_ => #[v0_, .bool t13_2]) (IsC (Kd.int .u8) t13_1), IsC (Kd.int .u8) t13_1, VB t13_2, IsC (Kd.int .u8) t13_1, VB t13_2]) (by kernel_rfl) ?_ ?_ rfl hS ⟨hBw10_w, hBw10_w3, hBw10_w9, hBw10_w10⟩ ?_ ?_
  · exact fun x y hI hb => ⟨below_step hI.1 hb, below_step hI.2.1 hb, below_step hI.2.2.1 hb, below_step hI.2.2.2 hb⟩
  · exact .v (.cons (Stays.r _ _ _ _) (.cons (Stays.t _ (Stays.c _ _)) (.cons (Stays.t _ (Stays.c _ _)) (.cons (Stays.c _ _) (.v (.cons (Stays.c _ _) (.v (.nil))))))))
  · refine .on rfl (fun a w hS hI hp => does_loadrow rfl (hS.get 1 rfl) (((hI.2.2.1).block g8 (blk_lt hbxw9)).trans hbxw9) Try.underlying26 rfl (by kernel_rfl) rfl) ?_
    refine .on rfl (fun a w hS hI hp => does_litT carillonlaw08_awake.flat26 w10.heap.size 22 26 _ [(0, .agg #[.int .i64 t5_1, .string t5_2])] (⟨t5_1, t5_2⟩ : S26) rfl (by kernel_rfl) (by rw [Array.toList_map]; exact (show [(0, a.eval (.tmp 11))] = _ from (li_cons (hp.V 0 rfl rfl) rfl))) (by kernel_rfl) (hI.2.2.2).size) ?_
    refine .on rfl (fun a w hS hI hp => (IsC.of_r (hp.V 1 rfl rfl)).elim fun A_ h_ => h_.elim fun c_ h_ => h_.elim fun hv_ h_ => h_.elim fun hl_ hc_ => does_call (by kernel_rfl) (ar2 (rfl) (hv_)) ((tlv_Put.calls k _ _ [] _ _ [(⟨t5_1, t5_2⟩ : S26)] t13_1 t13_2 _ (Kd.C_nil _ _) (Nat.le_refl _) hc_ hl_ At13).mono fun _ _ h => h.elim fun v0 h => ⟨_, h.1, h.2.2, v0, rfl, h.2.1⟩)) ?_
    refine .on rfl (fun a w hS hI hp => does_val (x_move rfl rfl) (hp.V 2 rfl rfl)) ?_
    refine .on rfl (fun a w hS hI hp => (hp.V 3 rfl rfl).elim fun v0 h0 => does_val (x_extract rfl h0.1 rfl) h0.2) ?_
    refine .on rfl (fun a w hS hI hp => (hp.V 3 rfl rfl).elim fun v0 h0 => does_val (x_extract rfl h0.1 rfl) rfl) ?_
    refine .on rfl (fun a w hS hI hp => does_val (x_assign rfl rfl) (hp.V 4 rfl rfl)) ?_
    refine .asg 5 rfl rfl rfl rfl ?_
    exact .nil
  clear hS
  intro at14 w15 hS hI hp
  have hBw15_w := hI.1
  have hBw15_w3 := hI.2.1
  have hBw15_w9 := hI.2.2.1
  have hBw15_w10 := hI.2.2.2
  replace hS := (hS.nil).cons (hS.get 0 rfl)
  obtain ⟨A16, C16, hv3, hl16, hc16⟩ := (show IsC (Kd.int .u8) t13_1 (sl _ 3) w15 from hp 6 (by decide))
  have hv4 : sl _ 4 = .bool t13_2 := hp 7 (by decide)
  have hBw15_w15 := Below.refl w15.heap.size w15
  have hS := hS.cons hv3
  have hS := hS.cons hv4
  clear hp hI hv3 hv4
  refine hK12 _ _ ?_
  (try clear hK12 K12)
  refine wp_seq_k (fun K17 hK17 => ?_)
  refine reg_seq (N := 31) (bs := [(4, .bool t13_2), (3, .slice A16 t13_1.length C16), (2, .bool t5_3)]) (I := fun x => Below w.heap.size w x ∧ Below w3.heap.size w3 x ∧ Below w9.heap.size w9 x ∧ Below w15.heap.size w15 x) (ps := [VB t5_3, VB t5_3, VB t13_2, VB t13_2, VB t13_2, IsV (.slice A16 t13_1.length C16), VI (t13_1.length : Int), VB (decide ((t13_1.length : Int) = 12)), VB (decide ((t13_1.length : Int) = 12)), VB (decide ((t13_1.length : Int) = 12)), IsV (.slice A16 t13_1.length C16), IsV (.slice A16 ((t13_1.take (4 : Int).toNat).length) C16), IsV (.string (strOfNums (t13_1.take (4 : Int).toNat))), VB ((strOfNums (t13_1.take (4 : Int).toNat)).toList == (⟨#[0, 8, 0, 8]⟩ : ByteArray).toList), VB ((strOfNums (t13_1.take (4 : Int).toNat)).toList == (⟨#[0, 8, 0, 8]⟩ : ByteArray).toList), VB ((strOfNums (t13_1.take (4 : Int).toNat)).toList == (⟨#[0, 8, 0, 8]⟩ : ByteArray).toList)]) (by kernel_rfl) ?_ ?_ rfl hS ⟨hBw15_w, hBw15_w3, hBw15_w9, hBw15_w15⟩ ?_ ?_
  · exact fun x y hI hb => ⟨below_step hI.1 hb, below_step hI.2.1 hb, below_step hI.2.2.1 hb, below_step hI.2.2.2 hb⟩
  · exact .v (.v (.v (.v (.v (.v (.v (.v (.v (.v (.v (.v (.v (.v (.v (.v (.nil))))))))))))))))
  · refine .ms 2 rfl rfl rfl ?_
    refine .mv 0 rfl rfl rfl rfl ?_
    refine .oy 1 17 rfl rfl rfl rfl rfl c1 (fun a w hS hI hp => does_val (x_move rfl (hS.get 0 rfl)) rfl) ?_
    refine .pt 1 2 rfl rfl rfl rfl c1 rfl rfl ?_
    refine .mv 3 rfl rfl rfl rfl ?_
    refine .oy 4 20 rfl rfl rfl rfl rfl c2 (fun a w hS hI hp => does_val (x_move rfl (hS.get 1 rfl)) rfl) ?_
    refine .oy 4 20 rfl rfl rfl rfl rfl c2 (fun a w hS hI hp => does_val (x_len (e := 5) rfl (by kernel_rfl) (hp.V 5 rfl rfl)) rfl) ?_
    refine .oy 4 20 rfl rfl rfl rfl rfl c2 (fun a w hS hI hp => does_val (x_bin rfl (hp.V 6 rfl rfl) (rfl) (b_eql _ _ _ _ _ _)) rfl) ?_
    refine .pt 4 7 rfl rfl rfl rfl c2 rfl rfl ?_
    refine .mv 8 rfl rfl rfl rfl ?_
    refine .oy 9 25 rfl rfl rfl rfl rfl ((decide_eq_true c3)) (fun a w hS hI hp => does_val (x_move rfl (hS.get 1 rfl)) rfl) ?_
    refine .oy 9 25 rfl rfl rfl rfl rfl ((decide_eq_true c3)) (fun a w hS hI hp => does_val (x_cuthi rfl (e := 5) (xs := t13_1) (by kernel_rfl) (by kernel_rfl) (hp.V 10 rfl rfl) (rfl) (by decide) c4 hl16) rfl) ?_
    refine .oy 9 25 rfl rfl rfl rfl rfl ((decide_eq_true c3)) (fun a w hS hI hp => does_val (x_conv rfl (hp.V 11 rfl rfl) (Kd.C_string (by kernel_rfl) (e := 5) (by kernel_rfl) (by kernel_rfl) (Kd.C_take (m := (4 : Int).toNat) (Kd.C_below hc16 hI.2.2.2) (by have := c4; omega)))) rfl) ?_
    refine .oy 9 25 rfl rfl rfl rfl rfl ((decide_eq_true c3)) (fun a w hS hI hp => does_val (x_bin rfl (hp.V 12 rfl rfl) (rfl) (b_eqs _ _ _ _ _)) rfl) ?_
    refine .pt 9 13 rfl rfl rfl rfl ((decide_eq_true c3)) rfl rfl ?_
    refine .asg 14 rfl rfl rfl rfl ?_
    exact .nil
  clear hS
  intro at18 w19 hS hI hp
  have hBw19_w := hI.1
  have hBw19_w3 := hI.2.1
  have hBw19_w9 := hI.2.2.1
  have hBw19_w15 := hI.2.2.2
  replace hS := hS.nil
  have hv0 : sl _ 0 = .bool ((strOfNums (t13_1.take (4 : Int).toNat)).toList == (⟨#[0, 8, 0, 8]⟩ : ByteArray).toList) := hp 15 (by decide)
  have hBw19_w19 := Below.refl w19.heap.size w19
  have hS := hS.cons hv0
  clear hp hI hv0
  refine hK17 _ _ ?_
  (try clear hK17 K17)
  refine wp_ret ?_
  (try simp only [Exit.then, Exit.inBlock, Exit.jump, Exit.noGoto])
  exact bodyPost_ret (v := .bool ((strOfNums (t13_1.take (4 : Int).toNat)).toList == (⟨#[0, 8, 0, 8]⟩ : ByteArray).toList)) (results_single rfl (Vals.at (hS.get 0 rfl) .nil)) hS.nodef ⟨rfl, hBw19_w⟩
/-! ### tlv_Find: function 12 -/
def tlv_Find.l0 : Nat → Int → List (S26) → Int → Int → Option (Int × ByteArray × Bool)
  | 0, _, _, _, _ => none
  | k + 1, x1, x8, x9, x10 => if x10 < x9 then (if 0 ≤ x10 then (if x10 < (x8.length : Int) then (if ((rd_T26 x8 x10).f0) = x1 then (some ((rd_T26 x8 x10).f0, (rd_T26 x8 x10).f1, true)) else (tlv_Find.l0 k x1 x8 x9 (wrap64 (x10 + 1)))) else (none)) else (none)) else (some (0, (⟨#[]⟩ : ByteArray), false))
def tlv_Find.f (k : Nat) (l0 : List (S26)) (a1 : Int) : Option (Int × ByteArray × Bool) := tlv_Find.l0 k a1 l0 (l0.length : Int) 0
set_option maxHeartbeats 8000000 in
set_option maxRecDepth 100000 in
theorem tlv_Find.calls (k : Nat) (A0 : Option Addr) (c0 : Nat) (l0 : List (S26)) (a1 : Int) (r1 : Int) (r2 : ByteArray) (r3 : Bool) (w : World) (hr0 : Kd.C k26 w A0 l0.length l0) (hc0 : l0.length ≤ c0) (h : tlv_Find.f k l0 a1 = some (r1, r2, r3)) :
    Calls Try.prog 12 #[.slice A0 l0.length c0, .int .i64 a1] w fun e w' => e = .returned (.tuple #[.agg #[.int .i64 r1, .string r2], .bool r3]) ∧ Below w.heap.size w w' := by
  have hu26 := Try.underlying26
  have HR0 := Aside0.mk hr0
  have HC0 := Aside0.mk hc0
  clear hr0 hc0
  have HB := Aside0.mk (Below.refl w.heap.size w)
  have H : (tlv_Find.l0 k a1 l0 (l0.length : Int) 0) = some (r1, r2, r3) := h
  clear h
  have H' := Aside0.mk H
  clear H
  go_enter Try.func12, Try.ntmps12
  go_wp2_with (first | ((with_reducible refine gate_dst (N := 4) rfl ?_); refine box_event ?hg (N := 4) ?hd (cs := #[.int .i64 0, .string (⟨#[]⟩ : ByteArray)]) (t := 26) ?hr ?_; (case hd => rfl); (case hg => rfl); (case hr => first | (go_simp; done) | (go_simp; rfl)); intro gb112 hg w3 hbox hb; have n0_ := Aside0.mk (below_step (by repeat (first | (with_reducible first | exact HB.out | apply below_alloc | apply pw_below_drewN | apply below_drew1) | exact HB.out)) hb); have n1_ := Aside0.mk (hbox); have n2_ := Aside0.mk ((by rw [hg]; exact (below_size (by repeat (first | (with_reducible first | exact HB.out | apply below_alloc | apply pw_below_drewN | apply below_drew1) | exact HB.out))) : w.heap.size ≤ gb112)); have n3_ := Aside0.mk ((by rw [hg]; exact (below_size (by repeat (first | (with_reducible first | exact HB.out | apply below_alloc | apply pw_below_drewN | apply below_drew1) | exact HB.out))) : w.heap.size ≤ gb112)); clear HB; have HB := n0_; have BK112 := n1_; have GW112 := n2_; have GE112 := n3_; clear n0_ n1_ n2_ n3_; clear hb hbox hg))
  go_loopg [10] k (fun kq v10 w' => ∃ (x10_1 : Int) (x113000_1 : Int) (x113001_1 : ByteArray), v10 = .int .i64 x10_1 ∧ Aside0 (tlv_Find.l0 kq a1 l0 (l0.length : Int) x10_1 = some (r1, r2, r3)) ∧ Aside0 (kq ≤ k) ∧ Aside0 (w'.heap[gb112]? = some (.cells #[.int .i64 x113000_1, .string x113001_1] 26 (0, 0))) ∧ Aside0 (Below w.heap.size w w'))
  case atStart => exact ⟨(0), (0), ((⟨#[]⟩ : ByteArray)), (by first | rfl | (simp; done) | (simp [*]; done)), H', ⟨Nat.le_refl _⟩, ⟨by (with_reducible repeat (first | refine blk_drewN ?_ _ | refine blk_drew ?_ | refine blk_alloc ?_ _)); exact BK112.out⟩, ⟨by repeat (first | (with_reducible first | exact HB.out | apply below_alloc | apply pw_below_drewN | apply below_drew1 | refine below_set ?_ GE112.out) | exact HB.out)⟩⟩
  case round =>
    clear H'
    try clear c1
    try clear p2
    obtain ⟨x10_1, x113000_1, x113001_1, rfl, HA, HK1, BK112, HB⟩ := hrel
    cases gk with
    | zero => exact absurd HA.out (by simp [tlv_Find.l0])
    | succ k1 =>
      have H := HA.out
      clear HA
      simp only [tlv_Find.l0] at H
      by_cases c4 : x10_1 < (l0.length : Int)
      · rw [if_pos c4] at H
        have c4b0 : decide (x10_1 < (l0.length : Int)) = true := decide_eq_true c4
        clear c4
        by_cases c5 : 0 ≤ x10_1
        · rw [if_pos c5] at H
          have c5b0 : decide (0 ≤ x10_1) = true := decide_eq_true c5
          clear c5
          by_cases c6 : x10_1 < (l0.length : Int)
          · rw [if_pos c6] at H
            have c6b0 : decide (x10_1 < (l0.length : Int)) = true := decide_eq_true c6
            clear c6
            by_cases c7 : ((rd_T26 l0 x10_1).f0) = a1
            · rw [if_pos c7] at H
              have c7b0 : (((rd_T26 l0 x10_1).f0) == a1) = true := beq_iff_eq.mpr c7
              have c7b1 : (((rd_T26 l0 x10_1).f0) != a1) = false := bne_eq_false_iff_eq.mpr c7
              clear c7
              simp only [Option.some.injEq, Prod.mk.injEq] at H
              obtain ⟨rfl, rfl, rfl⟩ := H
              have p113 : 0 ≤ (x10_1 : Int) := of_decide_eq_true (by first | (with_reducible assumption) | assumption)
              have q113 : x10_1 < (l0.length : Int) := of_decide_eq_true (by first | (with_reducible assumption) | assumption)
              obtain ⟨ad113, e113, hx113_0, hx113_1⟩ := at_T26 HR0.out x10_1 p113 q113
              cases e113
              replace hx113_0 := (HB.out.cell (World.block_lt_of_cell? w _ hx113_0)).trans hx113_0
              replace hx113_1 := (HB.out.cell (World.block_lt_of_cell? w _ hx113_1)).trans hx113_1
              replace p113 := eq_true p113
              replace q113 := eq_true q113
              go_wp2_with (first | ((with_reducible refine gate_dst (N := 7) rfl ?_); refine box_event ?hg (N := 7) ?hd (cs := #[.int .i64 0, .string (⟨#[]⟩ : ByteArray)]) (t := 26) ?hr ?_; (case hd => rfl); (case hg => rfl); (case hr => first | (go_simp; done) | (go_simp; rfl)); intro gb114 hg w8 hbox hb; have n0_ := Aside0.mk (blk_below (g := gb112) (o := .cells #[.int .i64 x113000_1, .string x113001_1] 26 (0, 0)) (by (with_reducible repeat (first | refine blk_drewN ?_ _ | refine blk_drew ?_ | refine blk_alloc ?_ _)); exact BK112.out) hb); have n1_ := Aside0.mk (below_step (by repeat (first | (with_reducible first | exact HB.out | apply below_alloc | apply pw_below_drewN | apply below_drew1 | refine below_set ?_ GE112.out) | exact HB.out)) hb); have n2_ := Aside0.mk (hbox); have n3_ := Aside0.mk ((by rw [hg]; exact (below_size (by repeat (first | (with_reducible first | exact HB.out | apply below_alloc | apply pw_below_drewN | apply below_drew1 | refine below_set ?_ GE112.out) | exact HB.out))) : w.heap.size ≤ gb114)); have n4_ := Aside0.mk ((by rw [hg]; exact (below_size (by repeat (first | (with_reducible first | exact HB.out | apply below_alloc | apply pw_below_drewN | apply below_drew1 | refine below_set ?_ GE112.out) | exact HB.out))) : w.heap.size ≤ gb114)); have n5_ := Aside0.mk ((by rw [hg]; exact Nat.ne_of_lt (blk_lt (g := gb112) (o := .cells #[.int .i64 x113000_1, .string x113001_1] 26 (0, 0)) (by (with_reducible repeat (first | refine blk_drewN ?_ _ | refine blk_drew ?_ | refine blk_alloc ?_ _)); exact BK112.out)) : gb112 ≠ gb114)); have n6_ := Aside0.mk ((by rw [hg]; exact Nat.ne_of_gt (blk_lt (g := gb112) (o := .cells #[.int .i64 x113000_1, .string x113001_1] 26 (0, 0)) (by (with_reducible repeat (first | refine blk_drewN ?_ _ | refine blk_drew ?_ | refine blk_alloc ?_ _)); exact BK112.out)) : gb114 ≠ gb112)); clear BK112; clear HB; have BK112 := n0_; have HB := n1_; have BK114 := n2_; have GW114 := n3_; have GE114 := n4_; have NB112_114 := n5_; have NB114_112 := n6_; clear n0_ n1_ n2_ n3_ n4_ n5_ n6_; clear hb hbox hg; have hnb9 := NB114_112.out; have hnc9 := NB112_114.out; have hcz10_0 : w8.cell? ⟨gb114, 0, none⟩ = some (.int .i64 0) := (blk_cell BK114.out 0).trans rfl; have hcz10_1 : w8.cell? ⟨gb114, 1, none⟩ = some (.string (⟨#[]⟩ : ByteArray)) := (blk_cell BK114.out 1).trans rfl; have hfz10_0 := blk_frozen BK114.out 0; have hfz10_1 := blk_frozen BK114.out 1; have hcz11_0 : w8.cell? ⟨gb112, 0, none⟩ = some (.int .i64 x113000_1) := (blk_cell BK112.out 0).trans rfl; have hcz11_1 : w8.cell? ⟨gb112, 1, none⟩ = some (.string x113001_1) := (blk_cell BK112.out 1).trans rfl; have hfz11_0 := blk_frozen BK112.out 0; have hfz11_1 := blk_frozen BK112.out 1))
              refine bodyPost_ret (results_ct rfl _ _ gb112 26 #[.int .i64 ((rd_T26 l0 x10_1).f0), .string ((rd_T26 l0 x10_1).f1)] (0, 0) _ rfl (by (with_reducible repeat (first | refine blk_drewN ?_ _ | refine blk_drew ?_ | refine blk_alloc ?_ _)); refine blk_put (cs := #[.int .i64 ((rd_T26 l0 x10_1).f0), .string x113001_1]) ?_ 1 _ rfl; (with_reducible repeat (first | refine blk_drewN ?_ _ | refine blk_drew ?_ | refine blk_alloc ?_ _)); refine blk_put (cs := #[.int .i64 x113000_1, .string x113001_1]) ?_ 0 _ rfl; (with_reducible repeat (first | refine blk_drewN ?_ _ | refine blk_drew ?_ | refine blk_alloc ?_ _)); refine blk_far ?_ NB112_114.out _; (with_reducible repeat (first | refine blk_drewN ?_ _ | refine blk_drew ?_ | refine blk_alloc ?_ _)); refine blk_far ?_ NB112_114.out _; (with_reducible repeat (first | refine blk_drewN ?_ _ | refine blk_drew ?_ | refine blk_alloc ?_ _)); exact BK112.out) Try.underlying26 rfl (by kernel_rfl)) rfl ?_
              exact ⟨by first | rfl | (simp [errW_none, errW_some] <;> rfl) | (simp [*, errW_none, errW_some] <;> rfl), by repeat (first | (with_reducible first | exact HB.out | apply below_alloc | apply pw_below_drewN | apply below_drew1 | refine below_set ?_ GE112.out | refine below_set ?_ GE114.out) | exact HB.out)⟩
            · rw [if_neg c7] at H
              have c7b0 : (((rd_T26 l0 x10_1).f0) == a1) = false := beq_eq_false_iff_ne.mpr c7
              have c7b1 : (((rd_T26 l0 x10_1).f0) != a1) = true := bne_iff_ne.mpr c7
              have H' := Aside0.mk H
              clear H
              have p113 : 0 ≤ (x10_1 : Int) := of_decide_eq_true (by first | (with_reducible assumption) | assumption)
              have q113 : x10_1 < (l0.length : Int) := of_decide_eq_true (by first | (with_reducible assumption) | assumption)
              obtain ⟨ad113, e113, hx113_0, hx113_1⟩ := at_T26 HR0.out x10_1 p113 q113
              cases e113
              replace hx113_0 := (HB.out.cell (World.block_lt_of_cell? w _ hx113_0)).trans hx113_0
              replace hx113_1 := (HB.out.cell (World.block_lt_of_cell? w _ hx113_1)).trans hx113_1
              replace p113 := eq_true p113
              replace q113 := eq_true q113
              go_wp2_with (first | ((with_reducible refine gate_dst (N := 7) rfl ?_); refine box_event ?hg (N := 7) ?hd (cs := #[.int .i64 0, .string (⟨#[]⟩ : ByteArray)]) (t := 26) ?hr ?_; (case hd => rfl); (case hg => rfl); (case hr => first | (go_simp; done) | (go_simp; rfl)); intro gb114 hg w12 hbox hb; have n0_ := Aside0.mk (blk_below (g := gb112) (o := .cells #[.int .i64 x113000_1, .string x113001_1] 26 (0, 0)) (by (with_reducible repeat (first | refine blk_drewN ?_ _ | refine blk_drew ?_ | refine blk_alloc ?_ _)); exact BK112.out) hb); have n1_ := Aside0.mk (below_step (by repeat (first | (with_reducible first | exact HB.out | apply below_alloc | apply pw_below_drewN | apply below_drew1 | refine below_set ?_ GE112.out) | exact HB.out)) hb); have n2_ := Aside0.mk (hbox); have n3_ := Aside0.mk ((by rw [hg]; exact (below_size (by repeat (first | (with_reducible first | exact HB.out | apply below_alloc | apply pw_below_drewN | apply below_drew1 | refine below_set ?_ GE112.out) | exact HB.out))) : w.heap.size ≤ gb114)); have n4_ := Aside0.mk ((by rw [hg]; exact (below_size (by repeat (first | (with_reducible first | exact HB.out | apply below_alloc | apply pw_below_drewN | apply below_drew1 | refine below_set ?_ GE112.out) | exact HB.out))) : w.heap.size ≤ gb114)); have n5_ := Aside0.mk ((by rw [hg]; exact Nat.ne_of_lt (blk_lt (g := gb112) (o := .cells #[.int .i64 x113000_1, .string x113001_1] 26 (0, 0)) (by (with_reducible repeat (first | refine blk_drewN ?_ _ | refine blk_drew ?_ | refine blk_alloc ?_ _)); exact BK112.out)) : gb112 ≠ gb114)); have n6_ := Aside0.mk ((by rw [hg]; exact Nat.ne_of_gt (blk_lt (g := gb112) (o := .cells #[.int .i64 x113000_1, .string x113001_1] 26 (0, 0)) (by (with_reducible repeat (first | refine blk_drewN ?_ _ | refine blk_drew ?_ | refine blk_alloc ?_ _)); exact BK112.out)) : gb114 ≠ gb112)); clear BK112; clear HB; have BK112 := n0_; have HB := n1_; have BK114 := n2_; have GW114 := n3_; have GE114 := n4_; have NB112_114 := n5_; have NB114_112 := n6_; clear n0_ n1_ n2_ n3_ n4_ n5_ n6_; clear hb hbox hg; have hnb13 := NB114_112.out; have hnc13 := NB112_114.out; have hcz14_0 : w12.cell? ⟨gb114, 0, none⟩ = some (.int .i64 0) := (blk_cell BK114.out 0).trans rfl; have hcz14_1 : w12.cell? ⟨gb114, 1, none⟩ = some (.string (⟨#[]⟩ : ByteArray)) := (blk_cell BK114.out 1).trans rfl; have hfz14_0 := blk_frozen BK114.out 0; have hfz14_1 := blk_frozen BK114.out 1))
              go_roundg k1
              case measure => have := HK1.out; omega
              case rel => exact ⟨(wrap64 (x10_1 + 1)), (x113000_1), (x113001_1), (by first | rfl | (simp; done) | (simp [*]; done)), H', ⟨by have := HK1.out; omega⟩, ⟨by (with_reducible repeat (first | refine blk_drewN ?_ _ | refine blk_drew ?_ | refine blk_alloc ?_ _)); refine blk_far ?_ NB112_114.out _; (with_reducible repeat (first | refine blk_drewN ?_ _ | refine blk_drew ?_ | refine blk_alloc ?_ _)); refine blk_far ?_ NB112_114.out _; (with_reducible repeat (first | refine blk_drewN ?_ _ | refine blk_drew ?_ | refine blk_alloc ?_ _)); exact BK112.out⟩, ⟨by repeat (first | (with_reducible first | exact HB.out | apply below_alloc | apply pw_below_drewN | apply below_drew1 | refine below_set ?_ GE112.out | refine below_set ?_ GE114.out) | exact HB.out)⟩⟩
          · rw [if_neg c6] at H
            exact absurd H (by simp)
        · rw [if_neg c5] at H
          exact absurd H (by simp)
      · rw [if_neg c4] at H
        have c4b0 : decide (x10_1 < (l0.length : Int)) = false := decide_eq_false c4
        clear c4
        simp only [Option.some.injEq, Prod.mk.injEq] at H
        obtain ⟨rfl, rfl, rfl⟩ := H
        have hcz15_0 : wr.cell? ⟨gb112, 0, none⟩ = some (.int .i64 x113000_1) := (blk_cell BK112.out 0).trans rfl
        have hcz15_1 : wr.cell? ⟨gb112, 1, none⟩ = some (.string x113001_1) := (blk_cell BK112.out 1).trans rfl
        have hfz15_0 := blk_frozen BK112.out 0
        have hfz15_1 := blk_frozen BK112.out 1
        go_wp2
        refine bodyPost_ret (results_ct rfl _ _ gb112 26 #[.int .i64 0, .string (⟨#[]⟩ : ByteArray)] (0, 0) _ rfl (by (with_reducible repeat (first | refine blk_drewN ?_ _ | refine blk_drew ?_ | refine blk_alloc ?_ _)); refine blk_put (cs := #[.int .i64 0, .string x113001_1]) ?_ 1 _ rfl; (with_reducible repeat (first | refine blk_drewN ?_ _ | refine blk_drew ?_ | refine blk_alloc ?_ _)); refine blk_put (cs := #[.int .i64 x113000_1, .string x113001_1]) ?_ 0 _ rfl; (with_reducible repeat (first | refine blk_drewN ?_ _ | refine blk_drew ?_ | refine blk_alloc ?_ _)); exact BK112.out) Try.underlying26 rfl (by kernel_rfl)) rfl ?_
        exact ⟨by first | rfl | (simp [errW_none, errW_some] <;> rfl) | (simp [*, errW_none, errW_some] <;> rfl), by repeat (first | (with_reducible first | exact HB.out | apply below_alloc | apply pw_below_drewN | apply below_drew1 | refine below_set ?_ GE112.out) | exact HB.out)⟩
/-! ### carillonlaw00_Tlvs: function 13 -/
def carillonlaw00_Tlvs.f (l0 : List (S26)) : Option ((List (S26))) := if ([] : List (S26)).length + l0.length < 5864062014805 then (some (([] : List (S26)) ++ l0)) else (none)
set_option maxHeartbeats 8000000 in
set_option maxRecDepth 100000 in
theorem carillonlaw00_Tlvs.calls (A0 : Option Addr) (c0 : Nat) (l0 : List (S26)) (r : List (S26)) (w : World) (hr0 : Kd.C k26 w A0 l0.length l0) (hc0 : l0.length ≤ c0) (h : carillonlaw00_Tlvs.f l0 = some r) :
    Calls Try.prog 13 #[.slice A0 l0.length c0] w fun e w' => ∃ v0_ : Value, e = .returned (v0_) ∧ Kd.R k26 26 w' w.heap.size (fun _ => True) v0_ r ∧ Below w.heap.size w w' := by
  have HR0 := Aside0.mk hr0
  have HC0 := Aside0.mk hc0
  clear hr0 hc0
  have HB := Aside0.mk (Below.refl w.heap.size w)
  have H : (if ([] : List (S26)).length + l0.length < 5864062014805 then (some (([] : List (S26)) ++ l0)) else (none)) = some r := h
  clear h
  by_cases c2 : ([] : List (S26)).length + l0.length < 5864062014805
  · rw [if_pos c2] at H
    have LMc2 := Aside0.mk c2
    clear c2
    obtain ⟨y115, hy115⟩ : ∃ y_ : List (S26), y_ = (([] : List (S26)) ++ l0) := ⟨_, rfl⟩
    replace H : (some y115) = some r := by first | (rw [hy115]; with_reducible exact H) | (have H2_ := (Option.bind_some _ _).symm.trans H; rw [hy115]; with_reducible exact H2_) | (have H2_ := (Option.bind_some _ _).symm.trans H; with_reducible exact H2_) | with_reducible exact H | (rw [hy115]; exact H) | exact H
    have Ny115 := Aside0.mk hy115
    clear hy115
    obtain rfl := Option.some.inj H
    go_enter Try.func13, Try.ntmps13
    go_wp2_with (first | ((with_reducible refine gate_builtin (b := .append) (xs := #[.const (.slice none 0 0), .tmp 3]) rfl ?_); at_builtin; refine Kd.R_append_rows k26 (w0 := w) w.heap.size rfl (.const (.slice none 0 0)) (.tmp 3) 22 26 (.agg #[(.int .i64 0), (.string ⟨#[]⟩)]) 24 rfl Try.underlying22 info26 rfl (by decide) (by omega) (.slice none 0 0) ([] : List (S26)) l0 _ _ _ (fun _ => True) (fun _ => False) rfl rfl ?aO ?aR (fun _ _ h => h) (fun _ h => h.elim) ?aF ?aB ?aS ?aL ?_; (case aR => repeat (first | exact HR0.out | (with_reducible refine Kd.C_alloc ?_ _) | (with_reducible refine Kd.C_drewN ?_ _) | (with_reducible refine Kd.C_drew ?_))); (case aB => exact (by repeat (first | (with_reducible first | exact HB.out | apply below_alloc | apply pw_below_drewN | apply below_drew1) | exact HB.out))); (case aF => exact (fun _ _ => trivial)); (case aO => exact ((Kd.R_nil _ _ _ _ (fun _ => True)))); (case aS => exact (below_size (by repeat (first | (with_reducible first | exact HB.out | apply below_alloc | apply pw_below_drewN | apply below_drew1) | exact HB.out)))); (case aL => have := LMc2.out; omega); intro v116 w3 ho hb hg hat; rw [← Ny115.out] at ho; have n0_ := Aside0.mk (hb); have n1_ := Aside0.mk (ho); clear HB; have HB := n0_; have HO117 := n1_; clear n0_ n1_; clear ho hb hg hat))
    all_goals
      go_ret
      exact ⟨_, by first | rfl | (simp [errW_none, errW_some] <;> rfl) | (simp [*, errW_none, errW_some] <;> rfl), by (with_reducible repeat (first | apply Kd.R_alloc | apply Kd.R_drewN | apply Kd.R_drew)); exact HO117.out, by repeat (first | (with_reducible first | exact HB.out | apply below_alloc | apply pw_below_drewN | apply below_drew1) | exact HB.out)⟩
  · rw [if_neg c2] at H
    exact absurd H (by simp)
/-! ### carillonref08_Check: function 17 -/
def carillonref08_Check.f (a0_0 : Int) (a0_1 : ByteArray) : Option (Bool) := if a0_0 ≥ 0 then (if a0_0 ≤ 65535 then (if ((a0_1.size : Int) % 2) = 0 then (some (decide ((a0_1.size : Int) ≤ 400))) else (some false)) else (some false)) else (some false)
set_option maxHeartbeats 8000000 in
set_option maxRecDepth 100000 in
theorem carillonref08_Check.calls (a0_0 : Int) (a0_1 : ByteArray) (r : Bool) (w : World) (h : carillonref08_Check.f a0_0 a0_1 = some r) :
    Calls Try.prog 17 #[.agg #[.int .i64 a0_0, .string a0_1]] w fun e w' => e = .returned (.bool r) ∧ Below w.heap.size w w' := by
  have hu26 := Try.underlying26
  have HB := Aside0.mk (Below.refl w.heap.size w)
  have H : (if a0_0 ≥ 0 then (if a0_0 ≤ 65535 then (if ((a0_1.size : Int) % 2) = 0 then (some (decide ((a0_1.size : Int) ≤ 400))) else (some false)) else (some false)) else (some false)) = some r := h
  clear h
  by_cases c2 : a0_0 ≥ 0
  · rw [if_pos c2] at H
    have c2b0 : decide (0 ≤ a0_0) = true := decide_eq_true c2
    clear c2
    by_cases c3 : a0_0 ≤ 65535
    · rw [if_pos c3] at H
      have c3b0 : decide (a0_0 ≤ 65535) = true := decide_eq_true c3
      clear c3
      by_cases c4 : ((a0_1.size : Int) % 2) = 0
      · rw [if_pos c4] at H
        have c4b0 : (((a0_1.size : Int) % 2) == 0) = true := beq_iff_eq.mpr c4
        have c4b1 : (((a0_1.size : Int) % 2) != 0) = false := bne_eq_false_iff_eq.mpr c4
        clear c4
        obtain rfl := Option.some.inj H
        go_enter Try.func17, Try.ntmps17
        go_wp2_with (first | ((with_reducible refine gate_dst (N := 1) rfl ?_); (try (refine gate_guard (by rfl) ?_; dsimp only)); refine box_event ?hg (N := 1) ?hd (cs := #[.int .i64 a0_0, .string a0_1]) (t := 26) ?hr ?_; (case hd => rfl); (case hg => rfl); (case hr => first | (go_simp; done) | (go_simp; rfl)); intro gb118 hg w5 hbox hb; have n0_ := Aside0.mk (below_step (by repeat (first | (with_reducible first | exact HB.out | apply below_alloc | apply pw_below_drewN | apply below_drew1) | exact HB.out)) hb); have n1_ := Aside0.mk (hbox); have n2_ := Aside0.mk ((by rw [hg]; exact (below_size (by repeat (first | (with_reducible first | exact HB.out | apply below_alloc | apply pw_below_drewN | apply below_drew1) | exact HB.out))) : w.heap.size ≤ gb118)); have n3_ := Aside0.mk ((by rw [hg]; exact (below_size (by repeat (first | (with_reducible first | exact HB.out | apply below_alloc | apply pw_below_drewN | apply below_drew1) | exact HB.out))) : w.heap.size ≤ gb118)); clear HB; have HB := n0_; have BK118 := n1_; have GW118 := n2_; have GE118 := n3_; clear n0_ n1_ n2_ n3_; clear hb hbox hg; have hcz6_0 : w5.cell? ⟨gb118, 0, none⟩ = some (.int .i64 a0_0) := (blk_cell BK118.out 0).trans rfl; have hcz6_1 : w5.cell? ⟨gb118, 1, none⟩ = some (.string a0_1) := (blk_cell BK118.out 1).trans rfl; have hfz6_0 := blk_frozen BK118.out 0; have hfz6_1 := blk_frozen BK118.out 1))
        all_goals
          go_ret
          exact ⟨by first | rfl | (simp [errW_none, errW_some] <;> rfl) | (simp [*, errW_none, errW_some] <;> rfl), by repeat (first | (with_reducible first | exact HB.out | apply below_alloc | apply pw_below_drewN | apply below_drew1 | refine below_set ?_ GE118.out) | exact HB.out)⟩
      · rw [if_neg c4] at H
        have c4b0 : (((a0_1.size : Int) % 2) == 0) = false := beq_eq_false_iff_ne.mpr c4
        have c4b1 : (((a0_1.size : Int) % 2) != 0) = true := bne_iff_ne.mpr c4
        obtain rfl := Option.some.inj H
        go_enter Try.func17, Try.ntmps17
        go_wp2_with (first | ((with_reducible refine gate_dst (N := 1) rfl ?_); (try (refine gate_guard (by rfl) ?_; dsimp only)); refine box_event ?hg (N := 1) ?hd (cs := #[.int .i64 a0_0, .string a0_1]) (t := 26) ?hr ?_; (case hd => rfl); (case hg => rfl); (case hr => first | (go_simp; done) | (go_simp; rfl)); intro gb118 hg w7 hbox hb; have n0_ := Aside0.mk (below_step (by repeat (first | (with_reducible first | exact HB.out | apply below_alloc | apply pw_below_drewN | apply below_drew1) | exact HB.out)) hb); have n1_ := Aside0.mk (hbox); have n2_ := Aside0.mk ((by rw [hg]; exact (below_size (by repeat (first | (with_reducible first | exact HB.out | apply below_alloc | apply pw_below_drewN | apply below_drew1) | exact HB.out))) : w.heap.size ≤ gb118)); have n3_ := Aside0.mk ((by rw [hg]; exact (below_size (by repeat (first | (with_reducible first | exact HB.out | apply below_alloc | apply pw_below_drewN | apply below_drew1) | exact HB.out))) : w.heap.size ≤ gb118)); clear HB; have HB := n0_; have BK118 := n1_; have GW118 := n2_; have GE118 := n3_; clear n0_ n1_ n2_ n3_; clear hb hbox hg; have hcz8_0 : w7.cell? ⟨gb118, 0, none⟩ = some (.int .i64 a0_0) := (blk_cell BK118.out 0).trans rfl; have hcz8_1 : w7.cell? ⟨gb118, 1, none⟩ = some (.string a0_1) := (blk_cell BK118.out 1).trans rfl; have hfz8_0 := blk_frozen BK118.out 0; have hfz8_1 := blk_frozen BK118.out 1))
        all_goals
          go_ret
          exact ⟨by first | rfl | (simp [errW_none, errW_some] <;> rfl) | (simp [*, errW_none, errW_some] <;> rfl), by repeat (first | (with_reducible first | exact HB.out | apply below_alloc | apply pw_below_drewN | apply below_drew1 | refine below_set ?_ GE118.out) | exact HB.out)⟩
    · rw [if_neg c3] at H
      have c3b0 : decide (a0_0 ≤ 65535) = false := decide_eq_false c3
      clear c3
      obtain rfl := Option.some.inj H
      go_enter Try.func17, Try.ntmps17
      go_wp2_with (first | ((with_reducible refine gate_dst (N := 1) rfl ?_); (try (refine gate_guard (by rfl) ?_; dsimp only)); refine box_event ?hg (N := 1) ?hd (cs := #[.int .i64 a0_0, .string a0_1]) (t := 26) ?hr ?_; (case hd => rfl); (case hg => rfl); (case hr => first | (go_simp; done) | (go_simp; rfl)); intro gb118 hg w9 hbox hb; have n0_ := Aside0.mk (below_step (by repeat (first | (with_reducible first | exact HB.out | apply below_alloc | apply pw_below_drewN | apply below_drew1) | exact HB.out)) hb); have n1_ := Aside0.mk (hbox); have n2_ := Aside0.mk ((by rw [hg]; exact (below_size (by repeat (first | (with_reducible first | exact HB.out | apply below_alloc | apply pw_below_drewN | apply below_drew1) | exact HB.out))) : w.heap.size ≤ gb118)); have n3_ := Aside0.mk ((by rw [hg]; exact (below_size (by repeat (first | (with_reducible first | exact HB.out | apply below_alloc | apply pw_below_drewN | apply below_drew1) | exact HB.out))) : w.heap.size ≤ gb118)); clear HB; have HB := n0_; have BK118 := n1_; have GW118 := n2_; have GE118 := n3_; clear n0_ n1_ n2_ n3_; clear hb hbox hg; have hcz10_0 : w9.cell? ⟨gb118, 0, none⟩ = some (.int .i64 a0_0) := (blk_cell BK118.out 0).trans rfl; have hcz10_1 : w9.cell? ⟨gb118, 1, none⟩ = some (.string a0_1) := (blk_cell BK118.out 1).trans rfl; have hfz10_0 := blk_frozen BK118.out 0; have hfz10_1 := blk_frozen BK118.out 1))
      all_goals
        go_ret
        exact ⟨by first | rfl | (simp [errW_none, errW_some] <;> rfl) | (simp [*, errW_none, errW_some] <;> rfl), by repeat (first | (with_reducible first | exact HB.out | apply below_alloc | apply pw_below_drewN | apply below_drew1 | refine below_set ?_ GE118.out) | exact HB.out)⟩
  · rw [if_neg c2] at H
    have c2b0 : decide (0 ≤ a0_0) = false := decide_eq_false c2
    clear c2
    obtain rfl := Option.some.inj H
    go_enter Try.func17, Try.ntmps17
    go_wp2_with (first | ((with_reducible refine gate_dst (N := 1) rfl ?_); (try (refine gate_guard (by rfl) ?_; dsimp only)); refine box_event ?hg (N := 1) ?hd (cs := #[.int .i64 a0_0, .string a0_1]) (t := 26) ?hr ?_; (case hd => rfl); (case hg => rfl); (case hr => first | (go_simp; done) | (go_simp; rfl)); intro gb118 hg w11 hbox hb; have n0_ := Aside0.mk (below_step (by repeat (first | (with_reducible first | exact HB.out | apply below_alloc | apply pw_below_drewN | apply below_drew1) | exact HB.out)) hb); have n1_ := Aside0.mk (hbox); have n2_ := Aside0.mk ((by rw [hg]; exact (below_size (by repeat (first | (with_reducible first | exact HB.out | apply below_alloc | apply pw_below_drewN | apply below_drew1) | exact HB.out))) : w.heap.size ≤ gb118)); have n3_ := Aside0.mk ((by rw [hg]; exact (below_size (by repeat (first | (with_reducible first | exact HB.out | apply below_alloc | apply pw_below_drewN | apply below_drew1) | exact HB.out))) : w.heap.size ≤ gb118)); clear HB; have HB := n0_; have BK118 := n1_; have GW118 := n2_; have GE118 := n3_; clear n0_ n1_ n2_ n3_; clear hb hbox hg; have hcz12_0 : w11.cell? ⟨gb118, 0, none⟩ = some (.int .i64 a0_0) := (blk_cell BK118.out 0).trans rfl; have hcz12_1 : w11.cell? ⟨gb118, 1, none⟩ = some (.string a0_1) := (blk_cell BK118.out 1).trans rfl; have hfz12_0 := blk_frozen BK118.out 0; have hfz12_1 := blk_frozen BK118.out 1))
    all_goals
      go_ret
      exact ⟨by first | rfl | (simp [errW_none, errW_some] <;> rfl) | (simp [*, errW_none, errW_some] <;> rfl), by repeat (first | (with_reducible first | exact HB.out | apply below_alloc | apply pw_below_drewN | apply below_drew1 | refine below_set ?_ GE118.out) | exact HB.out)⟩
/-! ### carillonref01_Put: function 41 -/
def carillonref01_Put.l0 : Nat → List Int → Int → Int → Option (List Int)
  | 0, _, _, _ => none
  | k + 1, x5, x6, x7 => if x7 ≥ 0 then (if 0 ≤ x7 then (if x7 < (x5.length : Int) then (carillonref01_Put.l0 k (x5.set (x7 : Int).toNat ((Int.tmod x6 256) % 256)) (IntKind.u64.wrap (Int.tdiv x6 256)) (wrap64 (x7 - 1))) else (none)) else (none)) else (some x5)
def carillonref01_Put.f (k : Nat) (a0 : Int) (a1 : Int) : Option (List Int) := if 0 ≤ (mn (mx a1 0) 8) then (if (mn (mx a1 0) 8 : Int).toNat ≤ 281474976710656 then (carillonref01_Put.l0 k (List.replicate (mn (mx a1 0) 8 : Int).toNat 0) (IntKind.u64.wrap (a0)) ((mn (mx a1 0) 8) - 1)) else (none)) else (none)
set_option maxHeartbeats 8000000 in
set_option maxRecDepth 100000 in
theorem carillonref01_Put.calls (k : Nat) (a0 : Int) (a1 : Int) (r : List Int) (w : World) (h : carillonref01_Put.f k a0 a1 = some r) :
    Calls Try.prog 41 #[.int .i64 a0, .int .i64 a1] w fun e w' => ∃ v0_ : Value, e = .returned (v0_) ∧ Kd.R (Kd.int .u8) 5 w' w.heap.size (fun _ => True) v0_ r ∧ Below w.heap.size w w' := by
  have HB := Aside0.mk (Below.refl w.heap.size w)
  have H : (if 0 ≤ (mn (mx a1 0) 8) then (if (mn (mx a1 0) 8 : Int).toNat ≤ 281474976710656 then (carillonref01_Put.l0 k (List.replicate (mn (mx a1 0) 8 : Int).toNat 0) (IntKind.u64.wrap (a0)) ((mn (mx a1 0) 8) - 1)) else (none)) else (none)) = some r := h
  clear h
  obtain ⟨ji3, hji3⟩ : ∃ j_ : Int, (mx a1 0) = j_ := ⟨_, rfl⟩
  replace H : (if 0 ≤ (mn (ji3) 8) then (if (mn (ji3) 8 : Int).toNat ≤ 281474976710656 then (carillonref01_Put.l0 k (List.replicate (mn (ji3) 8 : Int).toNat 0) (IntKind.u64.wrap (a0)) ((mn (ji3) 8) - 1)) else (none)) else (none)) = some r := by first | (rw [hji3] at H; exact H) | (simp only [hji3] at H ⊢; exact H)
  (try (have hji3l : 0 ≤ ji3 := by (rw [← hji3]; unfold mx; (repeat' split) <;> omega)))
  (try (have hji3m : 0 ≤ ji3 := by omega))
  have hji3_ : (if a1 < 0 then 0 else a1) = ji3 := hji3
  obtain ⟨ji4, hji4⟩ : ∃ j_ : Int, (mn (ji3) 8) = j_ := ⟨_, rfl⟩
  replace H : (if 0 ≤ (ji4) then (if (ji4 : Int).toNat ≤ 281474976710656 then (carillonref01_Put.l0 k (List.replicate (ji4 : Int).toNat 0) (IntKind.u64.wrap (a0)) ((ji4) - 1)) else (none)) else (none)) = some r := by first | (rw [hji4] at H; exact H) | (simp only [hji4] at H ⊢; exact H)
  have hji4_ : (if 8 < (ji3) then 8 else (ji3)) = ji4 := hji4
  by_cases c5 : 0 ≤ (ji4)
  · rw [if_pos c5] at H
    have c5b0 := eq_true c5
    have c5b1 : decide (0 ≤ (ji4)) = true := decide_eq_true c5
    clear c5
    by_cases c6 : (ji4 : Int).toNat ≤ 281474976710656
    · rw [if_pos c6] at H
      have c6b0 := eq_true c6
      have c6b1 : decide ((ji4 : Int).toNat ≤ 281474976710656) = true := decide_eq_true c6
      clear c6
      obtain ⟨y119, hy119⟩ : ∃ y_ : List Int, y_ = (List.replicate (ji4 : Int).toNat 0) := ⟨_, rfl⟩
      replace H : (carillonref01_Put.l0 k y119 (IntKind.u64.wrap (a0)) ((ji4) - 1)) = some r := by first | (rw [hy119]; with_reducible exact H) | (have H2_ := (Option.bind_some _ _).symm.trans H; rw [hy119]; with_reducible exact H2_) | (have H2_ := (Option.bind_some _ _).symm.trans H; with_reducible exact H2_) | with_reducible exact H | (rw [hy119]; exact H) | exact H
      have Ny119 := Aside0.mk hy119
      clear hy119
      have H' := Aside0.mk H
      clear H
      go_enter Try.func41, Try.ntmps41
      go_wp2_with (first | ((with_reducible refine gate_dst (N := 12) rfl ?_); refine Kd.R_make (Kd.int .u8) _ 5 rfl (N := 12) rfl 31 _ _ rfl ji4 rfl rfl Try.underlying31 (.int .u8 0) 1 info5 rfl (by decide) (by omega) 0 (ok := fun _ => True) (okp := fun _ => True) rfl (fun _ hk => hk) trivial (of_decide_eq_true (by first | (with_reducible assumption) | assumption)) (Nat.le_trans (Nat.mul_le_mul_right _ (of_decide_eq_true (by first | (with_reducible assumption) | assumption) : ji4.toNat ≤ 281474976710656)) (by omega)) (Below.refl _ _) (Nat.le_refl _) ?_; intro v120 w7 ho8 hb hg_ hnew_; clear hg_ hnew_; (first | rw [← Ny119.out] at ho8 | (simp only [Int.reduceToNat] at ho8; rw [← Ny119.out] at ho8)); have n0_ := Aside0.mk (Kd.R_lower ho8 (below_size (by repeat (first | (with_reducible first | exact HB.out | apply below_alloc | apply pw_below_drewN | apply below_drew1) | exact HB.out)))); have n1_ := Aside0.mk (below_step (by repeat (first | (with_reducible first | exact HB.out | apply below_alloc | apply pw_below_drewN | apply below_drew1) | exact HB.out)) hb); clear HB; have HO121 := n0_; have HB := n1_; clear n0_ n1_; clear hb ho8))
      go_loopg [6, 7] k (fun kq v6 v7 w' => ∃ (x5_1 : List Int) (x6_1 : Int) (x7_1 : Int), v6 = .int .u64 x6_1 ∧ v7 = .int .i64 x7_1 ∧ Aside0 (carillonref01_Put.l0 kq x5_1 x6_1 x7_1 = some r) ∧ Aside0 (kq ≤ k) ∧ Aside0 (Kd.R (Kd.int .u8) 5 w' w.heap.size (fun _ => True) v120 x5_1) ∧ Aside0 (Below w.heap.size w w'))
      case atStart => exact ⟨(y119), (IntKind.u64.wrap (a0)), ((ji4) - 1), (by first | rfl | (simp; done) | (simp [*]; done)), (by first | rfl | (simp; done) | (simp only [← hji4] <;> (first | rfl | simp)) | (simp [*]; done)), H', ⟨Nat.le_refl _⟩, ⟨by (with_reducible repeat (first | apply Kd.R_alloc | apply Kd.R_drewN | apply Kd.R_drew)); exact HO121.out⟩, ⟨by repeat (first | (with_reducible first | exact HB.out | apply below_alloc | apply pw_below_drewN | apply below_drew1) | exact HB.out)⟩⟩
      case round =>
        clear H'
        try clear p2
        try clear c4
        try clear c5
        try clear c5b0
        try clear c5b1
        try clear c6
        try clear c6b0
        try clear c6b1
        obtain ⟨x5_1, x6_1, x7_1, rfl, rfl, HA, HK1, HO_5, HB⟩ := hrel
        cases gk with
        | zero => exact absurd HA.out (by simp [carillonref01_Put.l0])
        | succ k1 =>
          have H := HA.out
          clear HA
          simp only [carillonref01_Put.l0] at H
          by_cases c9 : x7_1 ≥ 0
          · rw [if_pos c9] at H
            have c9b0 : decide (0 ≤ x7_1) = true := decide_eq_true c9
            clear c9
            by_cases c10 : 0 ≤ x7_1
            · rw [if_pos c10] at H
              have c10b0 : decide (0 ≤ x7_1) = true := decide_eq_true c10
              clear c10
              by_cases c11 : x7_1 < (x5_1.length : Int)
              · rw [if_pos c11] at H
                have c11b0 : decide (x7_1 < (x5_1.length : Int)) = true := decide_eq_true c11
                clear c11
                obtain ⟨y122, hy122⟩ : ∃ y_ : List Int, y_ = (x5_1.set (x7_1 : Int).toNat ((Int.tmod x6_1 256) % 256)) := ⟨_, rfl⟩
                replace H : (carillonref01_Put.l0 k1 y122 (IntKind.u64.wrap (Int.tdiv x6_1 256)) (wrap64 (x7_1 - 1))) = some r := by first | (rw [hy122]; with_reducible exact H) | (have H2_ := (Option.bind_some _ _).symm.trans H; rw [hy122]; with_reducible exact H2_) | (have H2_ := (Option.bind_some _ _).symm.trans H; with_reducible exact H2_) | with_reducible exact H | (rw [hy122]; exact H) | exact H
                have Ny122 := Aside0.mk hy122
                clear hy122
                have H' := Aside0.mk H
                clear H
                have p12 : 0 ≤ (x7_1 : Int) := of_decide_eq_true (by first | (with_reducible assumption) | assumption)
                have q12 : (x7_1 : Int) < ((x5_1.length : Int) : Int) := of_decide_eq_true (by first | (with_reducible assumption) | assumption)
                obtain ⟨go12, co12, eo12, gb12, gl12, cl12, HG12⟩ := Kd.R_form HO_5.out (by omega)
                (first | cases eo12 | (injection eo12 with ea_ en_ ec_; (first | subst ea_ | (injection ea_ with ea_; subst ea_)); subst ec_; clear en_))
                have GB12 := Aside0.mk gb12
                have GG12 := Aside0.mk HG12
                clear gb12 gl12 HG12
                obtain ⟨hx12_0, hf12_0⟩ := Kd.R_celln 0 HO_5.out (x7_1 : Int) p12 q12
                replace p12 := eq_true p12
                replace q12 := eq_true q12
                have HP13 := Kd.R_putg HO_5.out (x7_1 : Int) ((Int.tmod x6_1 256) % 256)
                go_wp2_with (first | ((with_reducible refine gate_store (t := 5) (p := 26) rfl ?_); refine store_event (t := 5) (p := 26) (v := ?vo_w14) (w1 := (wr.setCell ⟨go12, (x7_1 : Int).toNat, none⟩ (.int .u8 ((Int.tmod x6_1 256) % 256)))) ?hg ?ho ?hn ?hr ?_; (case ho => rfl); (case hg => rfl); (case hn => rfl); (case hr => first | (go_simp; done) | (go_simp; rfl)); intro w14 hw; have hg : wr.grownBy w14 (some go12) := (by rw [hw]; exact HP13.2); have hp_ : Kd.R (Kd.int .u8) 5 w14 w.heap.size (fun _ => True) (.slice (some ⟨go12, 0, none⟩) x5_1.length co12) y122 := (by rw [hw, Ny122.out]; exact HP13.1); clear HP13; have n0_ := Aside0.mk (hp_); have n1_ := Aside0.mk ((by rw [hw]; exact below_set (HB.out) GB12.out : Below w.heap.size w w14)); clear HO_5; clear HB; have HO_5 := n0_; have HB := n1_; clear n0_ n1_; clear hg hw hp_))
                go_roundg k1
                case measure => have := HK1.out; omega
                case rel => exact ⟨(y122), (IntKind.u64.wrap (Int.tdiv x6_1 256)), (wrap64 (x7_1 - 1)), (by first | rfl | (simp; done) | (simp [*]; done)), (by first | rfl | (simp; done) | (simp [*]; done)), H', ⟨by have := HK1.out; omega⟩, ⟨by (with_reducible repeat (first | apply Kd.R_alloc | apply Kd.R_drewN | apply Kd.R_drew)); exact HO_5.out⟩, ⟨by repeat (first | (with_reducible first | exact HB.out | apply below_alloc | apply pw_below_drewN | apply below_drew1) | exact HB.out)⟩⟩
              · rw [if_neg c11] at H
                exact absurd H (by simp)
            · rw [if_neg c10] at H
              exact absurd H (by simp)
          · rw [if_neg c9] at H
            have c9b0 : decide (0 ≤ x7_1) = false := decide_eq_false c9
            clear c9
            obtain rfl := Option.some.inj H
            go_wp2
            all_goals
              go_ret
              exact ⟨_, by first | rfl | (simp [errW_none, errW_some] <;> rfl) | (simp only [← hji3, ← hji4]; first | rfl | (simp [errW_none, errW_some] <;> rfl)) | (simp [*, errW_none, errW_some] <;> rfl), by (with_reducible repeat (first | apply Kd.R_alloc | apply Kd.R_drewN | apply Kd.R_drew)); exact HO_5.out, by repeat (first | (with_reducible first | exact HB.out | apply below_alloc | apply pw_below_drewN | apply below_drew1) | exact HB.out)⟩
    · rw [if_neg c6] at H
      exact absurd H (by simp)
  · rw [if_neg c5] at H
    exact absurd H (by simp)
/-! ### carillonref08_Put: function 15: by our own printer -/
def carillonref08_Put.l1 (k : Nat) : Nat → (List (S26)) → (List Int) → Int → Option (List Int × Bool)
  | 0, _, _, _ => none
  | n1 + 1, y1_0, y1_4, x1_5 => if x1_5 < (y1_0.length : Int) then (if 0 ≤ x1_5 then ((carillonref08_Check.f ((rd_T26 y1_0 x1_5).f0) ((rd_T26 y1_0 x1_5).f1)).bind fun t1008 => (if t1008 = true then ((carillonref01_Put.f k ((rd_T26 y1_0 x1_5).f0) 2).bind fun t1016 => (if (y1_4.length + t1016.length) * 1 ≤ 140737488355328 then ((carillonref01_Put.f k (((rd_T26 y1_0 x1_5).f1).size : Int) 2).bind fun t1023 => (if ((y1_4 ++ t1016 : List Int).length + t1023.length) * 1 ≤ 140737488355328 then (if ((y1_4 ++ t1016 : List Int) ++ t1023 : List Int).length + ((rd_T26 y1_0 x1_5).f1).size ≤ 140737488355328 then (carillonref08_Put.l1 k n1 y1_0 (((y1_4 ++ t1016 : List Int) ++ t1023 : List Int) ++ bytesOf ((rd_T26 y1_0 x1_5).f1) : List Int) (wrap64 (x1_5 + 1))) else (none)) else (none))) else (none))) else (some ([], false)))) else (none)) else (some (y1_4, true))
def carillonref08_Put.f (k : Nat) (l0 : List (S26)) : Option (List Int × Bool) := if (l0.length : Int) > 8 then (some ([], false)) else (carillonref08_Put.l1 k k l0 [] 0)
open Go.Proofs.Ytgmiokocipmbaaa.E in
theorem carillonref08_Put.flat26 : Flat k26 (fun x => [.int .i64 x.f0, .string x.f1]) := ⟨fun w x cs h => k26_open h, fun w base x => k26_mkM w base _ x⟩
open Go.Proofs.Ytgmiokocipmbaaa.E in
set_option maxHeartbeats 60000000 in
set_option maxRecDepth 100000 in
theorem carillonref08_Put.calls (k : Nat) (A0 : Option Addr) (cp0 : Nat) (l0 : List (S26)) (r1 : List Int) (r2 : Bool) (w : World) (HR0 : Kd.C k26 w A0 l0.length l0) (HC0 : l0.length ≤ cp0) (h : carillonref08_Put.f k l0 = some (r1, r2)) :
    Calls Try.prog 15 #[.slice A0 l0.length cp0] w fun e w' => ∃ v0_ : Value, e = .returned (.tuple #[v0_, .bool r2]) ∧ Kd.R (Kd.int .u8) 5 w' w.heap.size (fun _ => True) v0_ r1 ∧ Below w.heap.size w w' := by
  have H := h
  clear h
  unfold carillonref08_Put.f at H
  by_cases c1 : (l0.length : Int) > 8
  · rw [if_pos c1] at H
    simp only [Option.some.injEq, Prod.mk.injEq] at H
    obtain ⟨rfl, rfl⟩ := H
    refine calls_of_wp (fn := Try.f15) (by kernel_rfl) rfl ?_
    have hS := St.enter #[.slice A0 l0.length cp0] 45 (by simp) [(0, .slice A0 l0.length cp0)] (by simp)
    have HB0 := Below.refl w.heap.size w
    refine wp_seq_k (fun K1 hK1 => ?_)
    refine reg_seq (N := 45) (bs := [(0, .slice A0 l0.length cp0)]) (I := fun x => Below w.heap.size w x) (ps := [IsV (.slice none 0 0), VB false]) (by kernel_rfl) ?_ ?_ rfl hS HB0 ?_ ?_
    · exact fun x y hI hb => below_step hI hb
    · exact .v (.v (.nil))
    · refine .on rfl (fun a w hS hI hp => does_val (x_assign rfl (rfl)) rfl) ?_
      refine .on rfl (fun a w hS hI hp => does_val (x_assign rfl (rfl)) rfl) ?_
      exact .nil
    clear hS
    intro at2 w3 hS hI hp
    have hBw3_w := hI
    have hBw3_w3 := Below.refl w3.heap.size w3
    clear hp hI
    refine hK1 _ _ ?_
    (try clear hK1 K1)
    refine wp_seq_k (fun K4 hK4 => ?_)
    refine wp_seq_k (fun K5 hK5 => ?_)
    refine reg_seq (N := 45) (bs := [(0, .slice A0 l0.length cp0)]) (I := fun x => Below w.heap.size w x ∧ Below w3.heap.size w3 x) (ps := [IsV (.slice A0 l0.length cp0), VI (l0.length : Int), VB (decide ((l0.length : Int) > 8))]) (by kernel_rfl) ?_ ?_ rfl hS ⟨hBw3_w, hBw3_w3⟩ ?_ ?_
    · exact fun x y hI hb => ⟨below_step hI.1 hb, below_step hI.2 hb⟩
    · exact .v (.v (.v (.nil)))
    · refine .ms 0 rfl rfl rfl ?_
      refine .on rfl (fun a w hS hI hp => does_val (x_len (e := 26) rfl (by kernel_rfl) (hp.V 0 rfl rfl)) rfl) ?_
      refine .on rfl (fun a w hS hI hp => does_val (x_bin rfl (hp.V 1 rfl rfl) (rfl) (b_gtr _ _ _ _ _ _)) rfl) ?_
      exact .nil
    clear hS
    intro at6 w7 hS hI hp
    have hBw7_w := hI.1
    have hBw7_w3 := hI.2
    have hv8 : sl _ 8 = .bool (decide ((l0.length : Int) > 8)) := hp 2 (by decide)
    have hBw7_w7 := Below.refl w7.heap.size w7
    have hS := hS.cons hv8
    clear hp hI hv8
    refine hK5 _ _ ?_
    (try clear hK5 K5)
    refine wp_cond_true ((hS.get 0 rfl).trans (bT (decide_eq_true c1))) ?_
    refine wp_seq_k (fun K8 hK8 => ?_)
    refine reg_seq (N := 45) (bs := [(8, .bool (decide ((l0.length : Int) > 8))), (0, .slice A0 l0.length cp0)]) (I := fun x => Below w.heap.size w x ∧ Below w7.heap.size w7 x) (ps := [IsV (.slice none 0 0), VB false]) (by kernel_rfl) ?_ ?_ rfl hS ⟨hBw7_w, hBw7_w7⟩ ?_ ?_
    · exact fun x y hI hb => ⟨below_step hI.1 hb, below_step hI.2 hb⟩
    · exact .v (.v (.nil))
    · refine .on rfl (fun a w hS hI hp => does_val (x_assign rfl (rfl)) rfl) ?_
      refine .on rfl (fun a w hS hI hp => does_val (x_assign rfl (rfl)) rfl) ?_
      exact .nil
    clear hS
    intro at9 w10 hS hI hp
    have hBw10_w := hI.1
    have hBw10_w7 := hI.2
    replace hS := hS.nil
    have hv2 : sl _ 2 = .slice none 0 0 := hp 0 (by decide)
    have hv3 : sl _ 3 = .bool false := hp 1 (by decide)
    have hBw10_w10 := Below.refl w10.heap.size w10
    have hS := hS.cons hv2
    have hS := hS.cons hv3
    clear hp hI hv2 hv3
    refine hK8 _ _ ?_
    (try clear hK8 K8)
    refine wp_ret ?_
    (try simp only [Exit.then, Exit.inBlock, Exit.jump, Exit.noGoto])
    exact bodyPost_ret (v := .tuple #[.slice none 0 0, .bool false]) (results_list (rs := [.tmp 2, .tmp 3]) rfl (by simp) (Vals.at (hS.get 1 rfl) (Vals.at (hS.get 0 rfl) .nil))) hS.nodef ⟨.slice none 0 0, rfl, Kd.R_nil _ _ _ _ _, hBw10_w⟩
  rw [if_neg c1] at H
  refine calls_of_wp (fn := Try.f15) (by kernel_rfl) rfl ?_
  have hS := St.enter #[.slice A0 l0.length cp0] 45 (by simp) [(0, .slice A0 l0.length cp0)] (by simp)
  have HB0 := Below.refl w.heap.size w
  refine wp_seq_k (fun K1 hK1 => ?_)
  refine reg_seq (N := 45) (bs := [(0, .slice A0 l0.length cp0)]) (I := fun x => Below w.heap.size w x) (ps := [IsV (.slice none 0 0), VB false]) (by kernel_rfl) ?_ ?_ rfl hS HB0 ?_ ?_
  · exact fun x y hI hb => below_step hI hb
  · exact .v (.v (.nil))
  · refine .on rfl (fun a w hS hI hp => does_val (x_assign rfl (rfl)) rfl) ?_
    refine .on rfl (fun a w hS hI hp => does_val (x_assign rfl (rfl)) rfl) ?_
    exact .nil
  clear hS
  intro at2 w3 hS hI hp
  have hBw3_w := hI
  have hBw3_w3 := Below.refl w3.heap.size w3
  clear hp hI
  refine hK1 _ _ ?_
  (try clear hK1 K1)
  refine wp_seq_k (fun K4 hK4 => ?_)
  refine wp_seq_k (fun K5 hK5 => ?_)
  refine reg_seq (N := 45) (bs := [(0, .slice A0 l0.length cp0)]) (I := fun x => Below w.heap.size w x ∧ Below w3.heap.size w3 x) (ps := [IsV (.slice A0 l0.length cp0), VI (l0.length : Int), VB (decide ((l0.length : Int) > 8))]) (by kernel_rfl) ?_ ?_ rfl hS ⟨hBw3_w, hBw3_w3⟩ ?_ ?_
  · exact fun x y hI hb => ⟨below_step hI.1 hb, below_step hI.2 hb⟩
  · exact .v (.v (.v (.nil)))
  · refine .ms 0 rfl rfl rfl ?_
    refine .on rfl (fun a w hS hI hp => does_val (x_len (e := 26) rfl (by kernel_rfl) (hp.V 0 rfl rfl)) rfl) ?_
    refine .on rfl (fun a w hS hI hp => does_val (x_bin rfl (hp.V 1 rfl rfl) (rfl) (b_gtr _ _ _ _ _ _)) rfl) ?_
    exact .nil
  clear hS
  intro at6 w7 hS hI hp
  have hBw7_w := hI.1
  have hBw7_w3 := hI.2
  have hv8 : sl _ 8 = .bool (decide ((l0.length : Int) > 8)) := hp 2 (by decide)
  have hBw7_w7 := Below.refl w7.heap.size w7
  have hS := hS.cons hv8
  clear hp hI hv8
  refine hK5 _ _ ?_
  (try clear hK5 K5)
  refine wp_cond_false ((hS.get 0 rfl).trans (bF (decide_eq_false c1))) ?_
  refine wp_skip ?_
  refine hK4 _ _ ?_
  (try clear hK4 K4)
  refine wp_seq_k (fun K8 hK8 => ?_)
  refine reg_seq (N := 45) (bs := [(8, .bool (decide ((l0.length : Int) > 8))), (0, .slice A0 l0.length cp0)]) (I := fun x => Below w.heap.size w x ∧ Below w7.heap.size w7 x) (ps := [IsV (.slice none 0 0)]) (by kernel_rfl) ?_ ?_ rfl hS ⟨hBw7_w, hBw7_w7⟩ ?_ ?_
  · exact fun x y hI hb => ⟨below_step hI.1 hb, below_step hI.2 hb⟩
  · exact .v (.nil)
  · refine .on rfl (fun a w hS hI hp => does_val (x_assign rfl (rfl)) rfl) ?_
    exact .nil
  clear hS
  intro at9 w10 hS hI hp
  have hBw10_w := hI.1
  have hBw10_w7 := hI.2
  replace hS := (hS.nil).cons (hS.get 1 rfl)
  have hv4 : sl _ 4 = .slice none 0 0 := hp 0 (by decide)
  have hBw10_w10 := Below.refl w10.heap.size w10
  have hS := hS.cons hv4
  clear hp hI hv4
  refine hK8 _ _ ?_
  (try clear hK8 K8)
  refine wp_seq_k (fun K11 hK11 => ?_)
  refine wp_seq_k (fun K12 hK12 => ?_)
  refine reg_seq (N := 45) (bs := [(4, .slice none 0 0), (0, .slice A0 l0.length cp0)]) (I := fun x => Below w.heap.size w x ∧ Below w10.heap.size w10 x) (ps := [VI 0]) (by kernel_rfl) ?_ ?_ rfl hS ⟨hBw10_w, hBw10_w10⟩ ?_ ?_
  · exact fun x y hI hb => ⟨below_step hI.1 hb, below_step hI.2 hb⟩
  · exact .v (.nil)
  · refine .on rfl (fun a w hS hI hp => does_val (x_assign rfl (rfl)) rfl) ?_
    exact .nil
  clear hS
  intro at13 w14 hS hI hp
  have hBw14_w := hI.1
  have hBw14_w10 := hI.2
  have hv5 : sl _ 5 = .int .i64 0 := hp 0 (by decide)
  have hBw14_w14 := Below.refl w14.heap.size w14
  have hS := hS.cons hv5
  clear hp hI hv5
  refine hK12 _ _ ?_
  (try clear hK12 K12)
  refine wp_block ?_
  replace hS := (((hS.nil).cons (hS.get 0 rfl)).cons (hS.get 1 rfl)).cons (hS.get 2 rfl)
  refine wp_loop_ghost (fun n_ a_ wL1 => ∃ (y1_0 : List (S26)) (AL1_0 : Option Addr) (CL1_0 : Nat) (y1_4 : List Int) (AL1_4 : Option Addr) (CL1_4 : Nat) (x1_5 : Int), carillonref08_Put.l1 k n_ y1_0 y1_4 x1_5 = some (r1, r2) ∧ St 45 [(0, .slice AL1_0 y1_0.length CL1_0), (4, .slice AL1_4 y1_4.length CL1_4), (5, .int .i64 x1_5)] a_ ∧ Below w.heap.size w wL1 ∧ y1_0.length ≤ CL1_0 ∧ Kd.C k26 w AL1_0 y1_0.length y1_0 ∧ y1_4.length ≤ CL1_4 ∧ Kd.R (Kd.int .u8) 5 wL1 w.heap.size (fun _ => True) (.slice AL1_4 y1_4.length CL1_4) y1_4) k ⟨l0, A0, cp0, [], none, 0, 0, H, hS, hBw14_w, HC0, (HR0), (Nat.le_refl _), (Kd.R_nil _ _ _ _ _)⟩ ?_
  clear H hS
  rintro n1 aL1 wL1 ⟨y1_0, AL1_0, CL1_0, y1_4, AL1_4, CL1_4, x1_5, H, hS, hBwL1_w, hr1_0, hcL1_0, hr1_4, hoL1_4⟩
  rcases n1 with _ | n1
  · exact absurd H (by simp [carillonref08_Put.l1])
  rw [carillonref08_Put.l1] at H
  (try dsimp only at H)
  by_cases c2 : x1_5 < (y1_0.length : Int)
  rotate_left
  · rw [if_neg c2] at H
    simp only [Option.some.injEq, Prod.mk.injEq] at H
    obtain ⟨rfl, rfl⟩ := H
    have hBwL1_wL1 := Below.refl wL1.heap.size wL1
    refine wp_seq_k (fun K1001 hK1001 => ?_)
    refine wp_seq_k (fun K1002 hK1002 => ?_)
    refine reg_seq (N := 45) (bs := [(0, .slice AL1_0 y1_0.length CL1_0), (4, .slice AL1_4 y1_4.length CL1_4), (5, .int .i64 x1_5)]) (I := fun x => Below w.heap.size w x ∧ Below wL1.heap.size wL1 x) (ps := [VI x1_5, IsV (.slice AL1_0 y1_0.length CL1_0), VI (y1_0.length : Int), VB (decide (x1_5 < (y1_0.length : Int)))]) (by kernel_rfl) ?_ ?_ rfl hS ⟨hBwL1_w, hBwL1_wL1⟩ ?_ ?_
    · exact fun x y hI hb => ⟨below_step hI.1 hb, below_step hI.2 hb⟩
    · exact .v (.v (.v (.v (.nil))))
    · refine .ms 2 rfl rfl rfl ?_
      refine .ms 0 rfl rfl rfl ?_
      refine .on rfl (fun a w hS hI hp => does_val (x_len (e := 26) rfl (by kernel_rfl) (hp.V 1 rfl rfl)) rfl) ?_
      refine .on rfl (fun a w hS hI hp => does_val (x_bin rfl (hp.V 0 rfl rfl) (hp.V 2 rfl rfl) (b_lss _ _ _ _ _ _)) rfl) ?_
      exact .nil
    clear hS
    intro at1003 w1004 hS hI hp
    have hBw1004_w := hI.1
    have hBw1004_wL1 := hI.2
    have hv12 : sl _ 12 = .bool (decide (x1_5 < (y1_0.length : Int))) := hp 3 (by decide)
    have hBw1004_w1004 := Below.refl w1004.heap.size w1004
    have hS := hS.cons hv12
    clear hp hI hv12
    refine hK1002 _ _ ?_
    (try clear hK1002 K1002)
    refine wp_cond_false ((hS.get 0 rfl).trans (bF (decide_eq_false c2))) ?_
    refine wp_exit ?_
    (try simp only [Exit.then, Exit.inBlock, reduceIte])
    refine hK11 _ _ ?_
    (try clear hK11 K11)
    refine wp_seq_k (fun K1005 hK1005 => ?_)
    refine reg_seq (N := 45) (bs := [(12, .bool (decide (x1_5 < (y1_0.length : Int)))), (0, .slice AL1_0 y1_0.length CL1_0), (4, .slice AL1_4 y1_4.length CL1_4), (5, .int .i64 x1_5)]) (I := fun x => Below w.heap.size w x ∧ Below wL1.heap.size wL1 x ∧ Below w1004.heap.size w1004 x) (ps := [IsV (.slice AL1_4 y1_4.length CL1_4), IsV (.slice AL1_4 y1_4.length CL1_4), VB true]) (by kernel_rfl) ?_ ?_ rfl hS ⟨hBw1004_w, hBw1004_wL1, hBw1004_w1004⟩ ?_ ?_
    · exact fun x y hI hb => ⟨below_step hI.1 hb, below_step hI.2.1 hb, below_step hI.2.2 hb⟩
    · exact .v (.v (.v (.nil)))
    · refine .ms 2 rfl rfl rfl ?_
      refine .asg 0 rfl rfl rfl rfl ?_
      refine .on rfl (fun a w hS hI hp => does_val (x_assign rfl (rfl)) rfl) ?_
      exact .nil
    clear hS
    intro at1006 w1007 hS hI hp
    have hBw1007_w := hI.1
    have hBw1007_wL1 := hI.2.1
    have hBw1007_w1004 := hI.2.2
    replace hS := hS.nil
    have hv2 : sl _ 2 = .slice AL1_4 y1_4.length CL1_4 := hp 1 (by decide)
    have hv3 : sl _ 3 = .bool true := hp 2 (by decide)
    have hBw1007_w1007 := Below.refl w1007.heap.size w1007
    have hS := hS.cons hv2
    have hS := hS.cons hv3
    clear hp hI hv2 hv3
    refine hK1005 _ _ ?_
    (try clear hK1005 K1005)
    refine wp_ret ?_
    (try simp only [Exit.then, Exit.inBlock, Exit.jump, Exit.noGoto])
    exact bodyPost_ret (v := .tuple #[.slice AL1_4 y1_4.length CL1_4, .bool true]) (results_list (rs := [.tmp 2, .tmp 3]) rfl (by simp) (Vals.at (hS.get 1 rfl) (Vals.at (hS.get 0 rfl) .nil))) hS.nodef ⟨.slice AL1_4 y1_4.length CL1_4, rfl, Kd.R_lower (Kd.R_below hoL1_4 hBw1007_wL1) (Nat.le_refl _), hBw1007_w⟩
  rw [if_pos c2] at H
  by_cases c3 : 0 ≤ x1_5
  rotate_left
  · rw [if_neg c3] at H
    exact absurd H (by simp)
  rw [if_pos c3] at H
  obtain ⟨t1008, At1008, H⟩ := Option.bind_eq_some_iff.mp H
  by_cases c4 : t1008 = true
  rotate_left
  · rw [if_neg c4] at H
    simp only [Option.some.injEq, Prod.mk.injEq] at H
    obtain ⟨rfl, rfl⟩ := H
    have hBwL1_wL1 := Below.refl wL1.heap.size wL1
    refine wp_seq_k (fun K1001 hK1001 => ?_)
    refine wp_seq_k (fun K1002 hK1002 => ?_)
    refine reg_seq (N := 45) (bs := [(0, .slice AL1_0 y1_0.length CL1_0), (4, .slice AL1_4 y1_4.length CL1_4), (5, .int .i64 x1_5)]) (I := fun x => Below w.heap.size w x ∧ Below wL1.heap.size wL1 x) (ps := [VI x1_5, IsV (.slice AL1_0 y1_0.length CL1_0), VI (y1_0.length : Int), VB (decide (x1_5 < (y1_0.length : Int)))]) (by kernel_rfl) ?_ ?_ rfl hS ⟨hBwL1_w, hBwL1_wL1⟩ ?_ ?_
    · exact fun x y hI hb => ⟨below_step hI.1 hb, below_step hI.2 hb⟩
    · exact .v (.v (.v (.v (.nil))))
    · refine .ms 2 rfl rfl rfl ?_
      refine .ms 0 rfl rfl rfl ?_
      refine .on rfl (fun a w hS hI hp => does_val (x_len (e := 26) rfl (by kernel_rfl) (hp.V 1 rfl rfl)) rfl) ?_
      refine .on rfl (fun a w hS hI hp => does_val (x_bin rfl (hp.V 0 rfl rfl) (hp.V 2 rfl rfl) (b_lss _ _ _ _ _ _)) rfl) ?_
      exact .nil
    clear hS
    intro at1003 w1004 hS hI hp
    have hBw1004_w := hI.1
    have hBw1004_wL1 := hI.2
    have hv12 : sl _ 12 = .bool (decide (x1_5 < (y1_0.length : Int))) := hp 3 (by decide)
    have hBw1004_w1004 := Below.refl w1004.heap.size w1004
    have hS := hS.cons hv12
    clear hp hI hv12
    refine hK1002 _ _ ?_
    (try clear hK1002 K1002)
    refine wp_cond_true ((hS.get 0 rfl).trans (bT (decide_eq_true c2))) ?_
    refine wp_skip ?_
    refine hK1001 _ _ ?_
    (try clear hK1001 K1001)
    refine wp_seq_k (fun K1005 hK1005 => ?_)
    refine wp_block ?_
    refine wp_seq_k (fun K1006 hK1006 => ?_)
    refine wp_seq_k (fun K1007 hK1007 => ?_)
    refine reg_seq (N := 45) (bs := [(12, .bool (decide (x1_5 < (y1_0.length : Int)))), (0, .slice AL1_0 y1_0.length CL1_0), (4, .slice AL1_4 y1_4.length CL1_4), (5, .int .i64 x1_5)]) (I := fun x => Below w.heap.size w x ∧ Below wL1.heap.size wL1 x ∧ Below w1004.heap.size w1004 x) (ps := [IsV (.slice AL1_0 y1_0.length CL1_0), VI x1_5, IsAT [.int .i64 ((rd_T26 y1_0 x1_5).f0), .string ((rd_T26 y1_0 x1_5).f1)], IsV (.agg #[.int .i64 ((rd_T26 y1_0 x1_5).f0), .string ((rd_T26 y1_0 x1_5).f1)]), VB t1008, VB (!t1008)]) (by kernel_rfl) ?_ ?_ rfl hS ⟨hBw1004_w, hBw1004_wL1, hBw1004_w1004⟩ ?_ ?_
    · exact fun x y hI hb => ⟨below_step hI.1 hb, below_step hI.2.1 hb, below_step hI.2.2 hb⟩
    · exact .v (.v (.cons (Stays.at_ _) (.v (.v (.v (.nil))))))
    · refine .ms 1 rfl rfl rfl ?_
      refine .ms 3 rfl rfl rfl ?_
      refine .on rfl (fun a w hS hI hp => does_indexT carillonref08_Put.flat26 (e := 26) (xs := y1_0) (i := x1_5) z26 rfl (hp.V 0 rfl rfl) (hp.V 1 rfl rfl) (by kernel_rfl) (by kernel_rfl) c3 c2 c2 (by decide) ((Kd.C_below hcL1_0 hI.1))) ?_
      refine .on rfl (fun a w hS hI hp => does_loadT (cs := [.int .i64 ((rd_T26 y1_0 x1_5).f0), .string ((rd_T26 y1_0 x1_5).f1)]) rfl (hp.V 2 rfl rfl) Try.underlying26 rfl (by kernel_rfl)) ?_
      refine .on rfl (fun a w hS hI hp => does_call (by kernel_rfl) (ar1 (hp.V 3 rfl rfl)) ((carillonref08_Check.calls ((rd_T26 y1_0 x1_5).f0) ((rd_T26 y1_0 x1_5).f1) t1008 _  At1008).mono fun _ _ h => ⟨_, h.1, h.2, rfl⟩)) ?_
      refine .on rfl (fun a w hS hI hp => does_val (x_not rfl (hp.V 4 rfl rfl)) rfl) ?_
      exact .nil
    clear hS
    intro at1009 w1010 hS hI hp
    have hBw1010_w := hI.1
    have hBw1010_wL1 := hI.2.1
    have hBw1010_w1004 := hI.2.2
    replace hS := (((hS.nil).cons (hS.get 3 rfl)).cons (hS.get 2 rfl)).cons (hS.get 1 rfl)
    have hv20 : sl _ 20 = .bool (!t1008) := hp 5 (by decide)
    have hBw1010_w1010 := Below.refl w1010.heap.size w1010
    have hS := hS.cons hv20
    clear hp hI hv20
    refine hK1007 _ _ ?_
    (try clear hK1007 K1007)
    refine wp_cond_true ((hS.get 0 rfl).trans (bT (congrArg (!·) (Bool.eq_false_iff.2 c4)))) ?_
    refine wp_seq_k (fun K1011 hK1011 => ?_)
    refine reg_seq (N := 45) (bs := [(20, .bool (!t1008)), (0, .slice AL1_0 y1_0.length CL1_0), (4, .slice AL1_4 y1_4.length CL1_4), (5, .int .i64 x1_5)]) (I := fun x => Below w.heap.size w x ∧ Below wL1.heap.size wL1 x ∧ Below w1010.heap.size w1010 x) (ps := [IsV (.slice none 0 0), VB false]) (by kernel_rfl) ?_ ?_ rfl hS ⟨hBw1010_w, hBw1010_wL1, hBw1010_w1010⟩ ?_ ?_
    · exact fun x y hI hb => ⟨below_step hI.1 hb, below_step hI.2.1 hb, below_step hI.2.2 hb⟩
    · exact .v (.v (.nil))
    · refine .on rfl (fun a w hS hI hp => does_val (x_assign rfl (rfl)) rfl) ?_
      refine .on rfl (fun a w hS hI hp => does_val (x_assign rfl (rfl)) rfl) ?_
      exact .nil
    clear hS
    intro at1012 w1013 hS hI hp
    have hBw1013_w := hI.1
    have hBw1013_wL1 := hI.2.1
    have hBw1013_w1010 := hI.2.2
    replace hS := hS.nil
    have hv2 : sl _ 2 = .slice none 0 0 := hp 0 (by decide)
    have hv3 : sl _ 3 = .bool false := hp 1 (by decide)
    have hBw1013_w1013 := Below.refl w1013.heap.size w1013
    have hS := hS.cons hv2
    have hS := hS.cons hv3
    clear hp hI hv2 hv3
    refine hK1011 _ _ ?_
    (try clear hK1011 K1011)
    refine wp_ret ?_
    (try simp only [Exit.then, Exit.inBlock, Exit.jump, Exit.noGoto])
    exact bodyPost_ret (v := .tuple #[.slice none 0 0, .bool false]) (results_list (rs := [.tmp 2, .tmp 3]) rfl (by simp) (Vals.at (hS.get 1 rfl) (Vals.at (hS.get 0 rfl) .nil))) hS.nodef ⟨.slice none 0 0, rfl, Kd.R_nil _ _ _ _ _, hBw1013_w⟩
  rw [if_pos c4] at H
  obtain ⟨t1016, At1016, H⟩ := Option.bind_eq_some_iff.mp H
  by_cases c5 : (y1_4.length + t1016.length) * 1 ≤ 140737488355328
  rotate_left
  · rw [if_neg c5] at H
    exact absurd H (by simp)
  rw [if_pos c5] at H
  obtain ⟨t1023, At1023, H⟩ := Option.bind_eq_some_iff.mp H
  by_cases c6 : ((y1_4 ++ t1016 : List Int).length + t1023.length) * 1 ≤ 140737488355328
  rotate_left
  · rw [if_neg c6] at H
    exact absurd H (by simp)
  rw [if_pos c6] at H
  by_cases c7 : ((y1_4 ++ t1016 : List Int) ++ t1023 : List Int).length + ((rd_T26 y1_0 x1_5).f1).size ≤ 140737488355328
  rotate_left
  · rw [if_neg c7] at H
    exact absurd H (by simp)
  rw [if_pos c7] at H
  have hBwL1_wL1 := Below.refl wL1.heap.size wL1
  refine wp_seq_k (fun K1001 hK1001 => ?_)
  refine wp_seq_k (fun K1002 hK1002 => ?_)
  refine reg_seq (N := 45) (bs := [(0, .slice AL1_0 y1_0.length CL1_0), (4, .slice AL1_4 y1_4.length CL1_4), (5, .int .i64 x1_5)]) (I := fun x => Below w.heap.size w x ∧ Below wL1.heap.size wL1 x) (ps := [VI x1_5, IsV (.slice AL1_0 y1_0.length CL1_0), VI (y1_0.length : Int), VB (decide (x1_5 < (y1_0.length : Int)))]) (by kernel_rfl) ?_ ?_ rfl hS ⟨hBwL1_w, hBwL1_wL1⟩ ?_ ?_
  · exact fun x y hI hb => ⟨below_step hI.1 hb, below_step hI.2 hb⟩
  · exact .v (.v (.v (.v (.nil))))
  · refine .ms 2 rfl rfl rfl ?_
    refine .ms 0 rfl rfl rfl ?_
    refine .on rfl (fun a w hS hI hp => does_val (x_len (e := 26) rfl (by kernel_rfl) (hp.V 1 rfl rfl)) rfl) ?_
    refine .on rfl (fun a w hS hI hp => does_val (x_bin rfl (hp.V 0 rfl rfl) (hp.V 2 rfl rfl) (b_lss _ _ _ _ _ _)) rfl) ?_
    exact .nil
  clear hS
  intro at1003 w1004 hS hI hp
  have hBw1004_w := hI.1
  have hBw1004_wL1 := hI.2
  have hv12 : sl _ 12 = .bool (decide (x1_5 < (y1_0.length : Int))) := hp 3 (by decide)
  have hBw1004_w1004 := Below.refl w1004.heap.size w1004
  have hS := hS.cons hv12
  clear hp hI hv12
  refine hK1002 _ _ ?_
  (try clear hK1002 K1002)
  refine wp_cond_true ((hS.get 0 rfl).trans (bT (decide_eq_true c2))) ?_
  refine wp_skip ?_
  refine hK1001 _ _ ?_
  (try clear hK1001 K1001)
  refine wp_seq_k (fun K1005 hK1005 => ?_)
  refine wp_block ?_
  refine wp_seq_k (fun K1006 hK1006 => ?_)
  refine wp_seq_k (fun K1007 hK1007 => ?_)
  refine reg_seq (N := 45) (bs := [(12, .bool (decide (x1_5 < (y1_0.length : Int)))), (0, .slice AL1_0 y1_0.length CL1_0), (4, .slice AL1_4 y1_4.length CL1_4), (5, .int .i64 x1_5)]) (I := fun x => Below w.heap.size w x ∧ Below wL1.heap.size wL1 x ∧ Below w1004.heap.size w1004 x) (ps := [IsV (.slice AL1_0 y1_0.length CL1_0), VI x1_5, IsAT [.int .i64 ((rd_T26 y1_0 x1_5).f0), .string ((rd_T26 y1_0 x1_5).f1)], IsV (.agg #[.int .i64 ((rd_T26 y1_0 x1_5).f0), .string ((rd_T26 y1_0 x1_5).f1)]), VB t1008, VB (!t1008)]) (by kernel_rfl) ?_ ?_ rfl hS ⟨hBw1004_w, hBw1004_wL1, hBw1004_w1004⟩ ?_ ?_
  · exact fun x y hI hb => ⟨below_step hI.1 hb, below_step hI.2.1 hb, below_step hI.2.2 hb⟩
  · exact .v (.v (.cons (Stays.at_ _) (.v (.v (.v (.nil))))))
  · refine .ms 1 rfl rfl rfl ?_
    refine .ms 3 rfl rfl rfl ?_
    refine .on rfl (fun a w hS hI hp => does_indexT carillonref08_Put.flat26 (e := 26) (xs := y1_0) (i := x1_5) z26 rfl (hp.V 0 rfl rfl) (hp.V 1 rfl rfl) (by kernel_rfl) (by kernel_rfl) c3 c2 c2 (by decide) ((Kd.C_below hcL1_0 hI.1))) ?_
    refine .on rfl (fun a w hS hI hp => does_loadT (cs := [.int .i64 ((rd_T26 y1_0 x1_5).f0), .string ((rd_T26 y1_0 x1_5).f1)]) rfl (hp.V 2 rfl rfl) Try.underlying26 rfl (by kernel_rfl)) ?_
    refine .on rfl (fun a w hS hI hp => does_call (by kernel_rfl) (ar1 (hp.V 3 rfl rfl)) ((carillonref08_Check.calls ((rd_T26 y1_0 x1_5).f0) ((rd_T26 y1_0 x1_5).f1) t1008 _  At1008).mono fun _ _ h => ⟨_, h.1, h.2, rfl⟩)) ?_
    refine .on rfl (fun a w hS hI hp => does_val (x_not rfl (hp.V 4 rfl rfl)) rfl) ?_
    exact .nil
  clear hS
  intro at1009 w1010 hS hI hp
  have hBw1010_w := hI.1
  have hBw1010_wL1 := hI.2.1
  have hBw1010_w1004 := hI.2.2
  replace hS := (((hS.nil).cons (hS.get 3 rfl)).cons (hS.get 2 rfl)).cons (hS.get 1 rfl)
  have hv20 : sl _ 20 = .bool (!t1008) := hp 5 (by decide)
  have hBw1010_w1010 := Below.refl w1010.heap.size w1010
  have hS := hS.cons hv20
  clear hp hI hv20
  refine hK1007 _ _ ?_
  (try clear hK1007 K1007)
  refine wp_cond_false ((hS.get 0 rfl).trans (bF (congrArg (!·) c4))) ?_
  refine wp_skip ?_
  refine hK1006 _ _ ?_
  (try clear hK1006 K1006)
  refine wp_seq_k (fun K1011 hK1011 => ?_)
  obtain ⟨ad1012, hAad1012⟩ := row_some z26 (Kd.C_below hcL1_0 hBw1010_w) c3 c2
  refine reg_float (N := 45) (bs := [(20, .bool (!t1008)), (0, .slice AL1_0 y1_0.length CL1_0), (4, .slice AL1_4 y1_4.length CL1_4), (5, .int .i64 x1_5)]) (I := fun x => Below w.heap.size w x ∧ Below wL1.heap.size wL1 x ∧ Below w1010.heap.size w1010 x) (C := fun x => Kd.C k26 x AL1_0 y1_0.length y1_0) [true, true, true, true, true, true, false, false, true, true, true, true, true, true, false, false, false] [.slice AL1_4 y1_4.length CL1_4, .slice AL1_0 y1_0.length CL1_0, .int .i64 x1_5, .pointer (some (ad1012.add ((x1_5 : Int).toNat * 2))), .pointer (some ((ad1012.add ((x1_5 : Int).toNat * 2)).add 0)), .int .i64 ((rd_T26 y1_0 x1_5).f0), undef, undef, .slice AL1_0 y1_0.length CL1_0, .int .i64 x1_5, .pointer (some (ad1012.add ((x1_5 : Int).toNat * 2))), .pointer (some ((ad1012.add ((x1_5 : Int).toNat * 2)).add 1)), .string ((rd_T26 y1_0 x1_5).f1), .int .i64 (((rd_T26 y1_0 x1_5).f1).size : Int), undef, undef, undef] [0, 0, 0, 6, 14, 30, 62, 127, 0, 0, 768, 1792, 3840, 7936, 16383, 32767, 65535] (by kernel_rfl) (by kernel_rfl) rfl ?_ ?_ hS ⟨hBw1010_w, hBw1010_wL1, hBw1010_w1010⟩ ?_ ?_
  · exact fun x y hI hb => ⟨below_step hI.1 hb, below_step hI.2.1 hb, below_step hI.2.2 hb⟩
  · exact fun x hI => (Kd.C_below hcL1_0 hI.1)
  · intro a hS hp
    refine .g (fun w hC => GRun.on rfl (x_move rfl (hS.get 2 rfl))) ?_
    refine .g (fun w hC => GRun.on rfl (x_move rfl (hS.get 1 rfl))) ?_
    refine .g (fun w hC => GRun.on rfl (x_move rfl (hS.get 3 rfl))) ?_
    refine .g (fun w hC => GRun.on rfl (x_index (sz := 2) (e := 26) rfl ((hp.get 1 rfl rfl rfl).trans (by rw [hAad1012])) ((hp.get 2 rfl rfl rfl)) (by kernel_rfl) (by kernel_rfl) c3 c2)) ?_
    refine .g (fun w hC => GRun.on rfl (x_fieldA (off := 0) rfl ((hp.get 3 rfl rfl rfl)) Try.underlying26 rfl rfl (by kernel_rfl))) ?_
    refine .g (fun w hC => GRun.on rfl (x_load1 (d := .int .i64) rfl ((hp.get 4 rfl rfl rfl)) (by kernel_rfl) rfl (row_cell carillonref08_Put.flat26 z26 (hAad1012 ▸ hC) x1_5 c3 c2 0 _ rfl))) ?_
    iterate 2 refine .t ?_
    refine .g (fun w hC => GRun.on rfl (x_move rfl (hS.get 1 rfl))) ?_
    refine .g (fun w hC => GRun.on rfl (x_move rfl (hS.get 3 rfl))) ?_
    refine .g (fun w hC => GRun.on rfl (x_index (sz := 2) (e := 26) rfl ((hp.get 8 rfl rfl rfl).trans (by rw [hAad1012])) ((hp.get 9 rfl rfl rfl)) (by kernel_rfl) (by kernel_rfl) c3 c2)) ?_
    refine .g (fun w hC => GRun.on rfl (x_fieldA (off := 1) rfl ((hp.get 10 rfl rfl rfl)) Try.underlying26 rfl rfl (by kernel_rfl))) ?_
    refine .g (fun w hC => GRun.on rfl (x_load1 (d := .string) rfl ((hp.get 11 rfl rfl rfl)) (by kernel_rfl) rfl (row_cell carillonref08_Put.flat26 z26 (hAad1012 ▸ hC) x1_5 c3 c2 1 _ rfl))) ?_
    refine .g (fun w hC => GRun.on rfl (x_lenS rfl (by kernel_rfl) ((hp.get 12 rfl rfl rfl)))) ?_
    iterate 3 refine .t ?_
    exact .nil
  clear hS
  intro at1013 w1014 hS hp hI
  have hBw1014_w := hI.1
  have hBw1014_wL1 := hI.2.1
  have hBw1014_w1010 := hI.2.2
  have hBw1014_w1014 := Below.refl w1014.heap.size w1014
  have hS := hS.cons (show sl _ 21 = .slice AL1_4 y1_4.length CL1_4 from hp.get 0 rfl rfl rfl)
  have hS := hS.cons (show sl _ 26 = .int .i64 ((rd_T26 y1_0 x1_5).f0) from hp.get 5 rfl rfl rfl)
  have hS := hS.cons (show sl _ 34 = .int .i64 (((rd_T26 y1_0 x1_5).f1).size : Int) from hp.get 13 rfl rfl rfl)
  clear hp hI
  show ListC _ _ _ _ [_, _, _, _, _] _ _
  refine lc_step rfl (R := fun v w' => Below _ _ w' ∧ (IsR (Kd.int .u8) 5 w1014.heap.size t1016) v w') (does_call (by kernel_rfl) (ar2 (hS.get 1 rfl) (rfl)) ((carillonref01_Put.calls k ((rd_T26 y1_0 x1_5).f0) 2 t1016 _  At1016).mono fun _ _ h => h.elim fun v0 h => ⟨v0, h.1, h.2.2, Kd.R_lower h.2.1 hBw1014_w1014.size⟩)) ?_
  rintro vw1015 w1015 ⟨hb, he⟩
  have hBw1015_w := below_step hBw1014_w hb
  have hBw1015_wL1 := below_step hBw1014_wL1 hb
  have hBw1015_w1014 := below_step hBw1014_w1014 hb
  have hBw1015_w1015 := Below.refl w1015.heap.size w1015
  obtain ⟨A1017, C1017, rfl, hl1017, hc1017⟩ := Kd.R_reads he
  have hr1017 := he
  refine ⟨(Kd.C_below hcL1_0 hBw1015_w), ?_⟩
  refine hS.nextC (v := .slice A1017 t1016.length C1017) (d := 27) rfl (by decide) (by rfl) ?_
  clear hS
  intro at1018 hS
  refine lc_step rfl (does_more (W := w) (.tmp 21) (.tmp 27) 31 5 1 rfl (by kernel_rfl) (by kernel_rfl) (by decide) _ y1_4 t1016 _ _ (hS.get 3 rfl) (hS.get 0 rfl) (Kd.R_below hoL1_4 hBw1015_wL1) (Kd.C_below hc1017 hBw1015_w1015) hBw1015_w c5) ?_
  rintro vw1019 w1019 ⟨hb, hr, hk⟩
  clear hk
  have hBw1019_w := hb
  replace hS := (((((hS.nil).cons (hS.get 7 rfl)).cons (hS.get 5 rfl)).cons (hS.get 4 rfl)).cons (hS.get 2 rfl)).cons (hS.get 1 rfl)
  have hBw1019_w1019 := Below.refl w1019.heap.size w1019
  obtain ⟨A1020, C1020, rfl, hl1020, hc1020⟩ := Kd.R_reads hr
  have hr1020 := hr
  clear hr
  refine ⟨(Kd.C_below hcL1_0 hBw1019_w), ?_⟩
  refine hS.nextC (v := .slice A1020 ((y1_4 ++ t1016 : List Int).length) C1020) (d := 28) rfl (by decide) (by rfl) ?_
  clear hS
  intro at1021 hS
  refine lc_step rfl (R := fun v w' => Below _ _ w' ∧ (IsR (Kd.int .u8) 5 w1019.heap.size t1023) v w') (does_call (by kernel_rfl) (ar2 (hS.get 1 rfl) (rfl)) ((carillonref01_Put.calls k (((rd_T26 y1_0 x1_5).f1).size : Int) 2 t1023 _  At1023).mono fun _ _ h => h.elim fun v0 h => ⟨v0, h.1, h.2.2, Kd.R_lower h.2.1 hBw1019_w1019.size⟩)) ?_
  rintro vw1022 w1022 ⟨hb, he⟩
  have hBw1022_w := below_step hBw1019_w hb
  have hBw1022_w1019 := below_step hBw1019_w1019 hb
  have hBw1022_w1022 := Below.refl w1022.heap.size w1022
  obtain ⟨A1024, C1024, rfl, hl1024, hc1024⟩ := Kd.R_reads he
  have hr1024 := he
  refine ⟨(Kd.C_below hcL1_0 hBw1022_w), ?_⟩
  refine hS.nextC (v := .slice A1024 t1023.length C1024) (d := 35) rfl (by decide) (by rfl) ?_
  clear hS
  intro at1025 hS
  refine lc_step rfl (does_more (W := w) (.tmp 28) (.tmp 35) 31 5 1 rfl (by kernel_rfl) (by kernel_rfl) (by decide) _ (y1_4 ++ t1016 : List Int) t1023 _ _ (hS.get 1 rfl) (hS.get 0 rfl) (Kd.R_below hr1020 hBw1022_w1019) (Kd.C_below hc1024 hBw1022_w1022) hBw1022_w c6) ?_
  rintro vw1026 w1026 ⟨hb, hr, hk⟩
  clear hk
  have hBw1026_w := hb
  replace hS := (((((hS.nil).cons (hS.get 6 rfl)).cons (hS.get 5 rfl)).cons (hS.get 4 rfl)).cons (hS.get 3 rfl)).cons (hS.get 2 rfl)
  have hBw1026_w1026 := Below.refl w1026.heap.size w1026
  obtain ⟨A1027, C1027, rfl, hl1027, hc1027⟩ := Kd.R_reads hr
  have hr1027 := hr
  clear hr
  refine ⟨(Kd.C_below hcL1_0 hBw1026_w), ?_⟩
  refine hS.nextC (v := .slice A1027 (((y1_4 ++ t1016 : List Int) ++ t1023 : List Int).length) C1027) (d := 36) rfl (by decide) (by rfl) ?_
  clear hS
  intro at1028 hS
  refine lc_step rfl (R := fun v w' => Below _ _ w' ∧ (IsV (.slice A1027 (((y1_4 ++ t1016 : List Int) ++ t1023 : List Int).length) C1027)) v w') (does_val (x_assign rfl (hS.get 0 rfl)) rfl) ?_
  rintro vw1029 w1029 ⟨hb, he⟩
  have hBw1029_w := below_step hBw1026_w hb
  have hBw1029_w1026 := below_step hBw1026_w1026 hb
  have hBw1029_w1029 := Below.refl w1029.heap.size w1029
  obtain rfl : vw1029 = .slice A1027 (((y1_4 ++ t1016 : List Int) ++ t1023 : List Int).length) C1027 := he
  refine ⟨(Kd.C_below hcL1_0 hBw1029_w), ?_⟩
  refine hS.nextC (v := .slice A1027 (((y1_4 ++ t1016 : List Int) ++ t1023 : List Int).length) C1027) (d := 4) rfl (by decide) (by rfl) ?_
  clear hS
  intro at1030 hS
  refine lc_nil ?_
  refine hK1011 _ _ ?_
  (try clear hK1011 K1011)
  refine reg_seq_tail 6 (N := 45) (bs := [(4, .slice A1027 (((y1_4 ++ t1016 : List Int) ++ t1023 : List Int).length) C1027), (36, .slice A1027 (((y1_4 ++ t1016 : List Int) ++ t1023 : List Int).length) C1027), (34, .int .i64 (((rd_T26 y1_0 x1_5).f1).size : Int)), (26, .int .i64 ((rd_T26 y1_0 x1_5).f0)), (20, .bool (!t1008)), (0, .slice AL1_0 y1_0.length CL1_0), (5, .int .i64 x1_5)]) (I := fun x => Below w.heap.size w x ∧ Below w1026.heap.size w1026 x ∧ Below w1029.heap.size w1029 x) (ps := [IsV (.slice A1027 (((y1_4 ++ t1016 : List Int) ++ t1023 : List Int).length) C1027), IsV (.slice AL1_0 y1_0.length CL1_0), VI x1_5, IsAT [.int .i64 ((rd_T26 y1_0 x1_5).f0), .string ((rd_T26 y1_0 x1_5).f1)], IsAT [.string ((rd_T26 y1_0 x1_5).f1)], IsV (.string ((rd_T26 y1_0 x1_5).f1))]) (by kernel_rfl) ?_ ?_ rfl hS ⟨hBw1029_w, hBw1029_w1026, hBw1029_w1029⟩ ?_ ?_
  · exact fun x y hI hb => ⟨below_step hI.1 hb, below_step hI.2.1 hb, below_step hI.2.2 hb⟩
  · exact .v (.v (.v (.cons (Stays.at_ _) (.cons (Stays.at_ _) (.v (.nil))))))
  · refine .ms 0 rfl rfl rfl ?_
    refine .ms 5 rfl rfl rfl ?_
    refine .ms 6 rfl rfl rfl ?_
    refine .on rfl (fun a w hS hI hp => does_indexT carillonref08_Put.flat26 (e := 26) (xs := y1_0) (i := x1_5) z26 rfl (hp.V 1 rfl rfl) (hp.V 2 rfl rfl) (by kernel_rfl) (by kernel_rfl) c3 c2 c2 (by decide) ((Kd.C_below hcL1_0 hI.1))) ?_
    refine .on rfl (fun a w hS hI hp => does_fieldT (cs := [.int .i64 ((rd_T26 y1_0 x1_5).f0), .string ((rd_T26 y1_0 x1_5).f1)]) (off := 1) rfl (hp.V 3 rfl rfl) Try.underlying26 rfl rfl (by kernel_rfl) rfl) ?_
    refine .on rfl (fun a w hS hI hp => does_loadA (d := .string) rfl (hp.V 4 rfl rfl) (by kernel_rfl) rfl) ?_
    exact .nil
  clear hS
  intro at1031 w1032 hS hI hp
  have hBw1032_w := hI.1
  have hBw1032_w1026 := hI.2.1
  have hBw1032_w1029 := hI.2.2
  replace hS := (((hS.nil).cons (hS.get 6 rfl)).cons (hS.get 5 rfl)).cons (hS.get 0 rfl)
  have hv37 : sl _ 37 = .slice A1027 (((y1_4 ++ t1016 : List Int) ++ t1023 : List Int).length) C1027 := hp 0 (by decide)
  have hv42 : sl _ 42 = .string ((rd_T26 y1_0 x1_5).f1) := hp 5 (by decide)
  have hBw1032_w1032 := Below.refl w1032.heap.size w1032
  have hS := hS.cons hv37
  have hS := hS.cons hv42
  clear hp hI hv37 hv42
  show wpList _ _ _ [_, _] _ _
  refine list_step rfl (does_moreS (W := w) (.tmp 37) (.tmp 42) 31 9 5 rfl (by kernel_rfl) (by kernel_rfl) (by kernel_rfl) _ ((y1_4 ++ t1016 : List Int) ++ t1023 : List Int) ((rd_T26 y1_0 x1_5).f1) (hS.get 1 rfl) (hS.get 0 rfl) (Kd.R_below hr1027 hBw1032_w1026) (hBw1032_w) c7) ?_
  rintro vw1033 w1033 ⟨hb, hr, hk⟩
  clear hk
  have hBw1033_w := hb
  replace hS := (((hS.nil).cons (hS.get 4 rfl)).cons (hS.get 3 rfl)).cons (hS.get 0 rfl)
  have hBw1033_w1033 := Below.refl w1033.heap.size w1033
  obtain ⟨A1034, C1034, rfl, hl1034, hc1034⟩ := Kd.R_reads hr
  have hr1034 := hr
  clear hr
  refine hS.next (v := .slice A1034 ((((y1_4 ++ t1016 : List Int) ++ t1023 : List Int) ++ bytesOf ((rd_T26 y1_0 x1_5).f1) : List Int).length) C1034) (d := 43) rfl (by decide) (by rfl) ?_
  clear hS
  intro at1035 hS
  refine list_step rfl (R := fun v w' => Below _ _ w' ∧ (IsV (.slice A1034 ((((y1_4 ++ t1016 : List Int) ++ t1023 : List Int) ++ bytesOf ((rd_T26 y1_0 x1_5).f1) : List Int).length) C1034)) v w') (does_val (x_assign rfl (hS.get 0 rfl)) rfl) ?_
  rintro vw1036 w1036 ⟨hb, he⟩
  have hBw1036_w := below_step hBw1033_w hb
  have hBw1036_w1033 := below_step hBw1033_w1033 hb
  have hBw1036_w1036 := Below.refl w1036.heap.size w1036
  obtain rfl : vw1036 = .slice A1034 ((((y1_4 ++ t1016 : List Int) ++ t1023 : List Int) ++ bytesOf ((rd_T26 y1_0 x1_5).f1) : List Int).length) C1034 := he
  refine hS.next (v := .slice A1034 ((((y1_4 ++ t1016 : List Int) ++ t1023 : List Int) ++ bytesOf ((rd_T26 y1_0 x1_5).f1) : List Int).length) C1034) (d := 4) rfl (by decide) (by rfl) ?_
  clear hS
  intro at1037 hS
  refine wpList_nil ?_
  refine hK1005 _ _ ?_
  (try clear hK1005 K1005)
  refine reg_seq_tail 2 (N := 45) (bs := [(4, .slice A1034 ((((y1_4 ++ t1016 : List Int) ++ t1023 : List Int) ++ bytesOf ((rd_T26 y1_0 x1_5).f1) : List Int).length) C1034), (43, .slice A1034 ((((y1_4 ++ t1016 : List Int) ++ t1023 : List Int) ++ bytesOf ((rd_T26 y1_0 x1_5).f1) : List Int).length) C1034), (42, .string ((rd_T26 y1_0 x1_5).f1)), (0, .slice AL1_0 y1_0.length CL1_0), (5, .int .i64 x1_5)]) (I := fun x => Below w.heap.size w x ∧ Below w1033.heap.size w1033 x ∧ Below w1036.heap.size w1036 x) (ps := [VI x1_5, VI (wrap64 (x1_5 + 1))]) (by kernel_rfl) ?_ ?_ rfl hS ⟨hBw1036_w, hBw1036_w1033, hBw1036_w1036⟩ ?_ ?_
  · exact fun x y hI hb => ⟨below_step hI.1 hb, below_step hI.2.1 hb, below_step hI.2.2 hb⟩
  · exact .v (.v (.nil))
  · refine .ms 4 rfl rfl rfl ?_
    refine .on rfl (fun a w hS hI hp => does_val (x_bin rfl (hp.V 0 rfl rfl) (rfl) (b_add _ _ _ _ _)) rfl) ?_
    exact .nil
  clear hS
  intro at1038 w1039 hS hI hp
  have hBw1039_w := hI.1
  have hBw1039_w1033 := hI.2.1
  have hBw1039_w1036 := hI.2.2
  replace hS := (((hS.nil).cons (hS.get 4 rfl)).cons (hS.get 3 rfl)).cons (hS.get 0 rfl)
  have hv14 : sl _ 14 = .int .i64 (wrap64 (x1_5 + 1)) := hp 1 (by decide)
  have hBw1039_w1039 := Below.refl w1039.heap.size w1039
  have hS := hS.cons hv14
  clear hp hI hv14
  show wpList _ _ _ [_] _ _
  refine list_step rfl (R := fun v w' => Below _ _ w' ∧ (VI (wrap64 (x1_5 + 1))) v w') (does_val (x_assign rfl (hS.get 0 rfl)) rfl) ?_
  rintro vw1040 w1040 ⟨hb, he⟩
  have hBw1040_w := below_step hBw1039_w hb
  have hBw1040_w1033 := below_step hBw1039_w1033 hb
  have hBw1040_w1039 := below_step hBw1039_w1039 hb
  have hBw1040_w1040 := Below.refl w1040.heap.size w1040
  obtain rfl : vw1040 = .int .i64 (wrap64 (x1_5 + 1)) := he
  replace hS := (((hS.nil).cons (hS.get 2 rfl)).cons (hS.get 1 rfl)).cons (hS.get 0 rfl)
  refine hS.next (v := .int .i64 (wrap64 (x1_5 + 1))) (d := 5) rfl (by decide) (by rfl) ?_
  clear hS
  intro at1041 hS
  refine wpList_nil ?_
  replace hS := (((hS.nil).cons (hS.get 0 rfl)).cons (hS.get 2 rfl)).cons (hS.get 3 rfl)
  (try simp only [Exit.then, Exit.inBlock])
  exact ⟨n1, Nat.lt_succ_self _, y1_0, AL1_0, CL1_0, (((y1_4 ++ t1016 : List Int) ++ t1023 : List Int) ++ bytesOf ((rd_T26 y1_0 x1_5).f1) : List Int), A1034, C1034, wrap64 (x1_5 + 1), H, hS, hBw1040_w, hr1_0, (hcL1_0), hl1034, (Kd.R_lower (Kd.R_below hr1034 hBw1040_w1033) (Nat.le_refl _))⟩
end Go.Proofs.Ytgmiokocipmbaaa.P
