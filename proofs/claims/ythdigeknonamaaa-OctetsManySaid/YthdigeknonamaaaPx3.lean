/- Functions and loops of the given program as Lean functions, and that the code comes to what they say: written by this session's own program; Lean checks it. -/
import Derived.Test.YthdigeknonamaaaPx0
import Derived.Test.YthdigeknonamaaaPx1
import Derived.Test.YthdigeknonamaaaPx2
namespace Go.Proofs.Ythdigeknonamaaa.P
open Go.RowKit Go.Proofs.YthdigeknonamaaaW.PrintWords Go.Proofs.YthdigeknonamaaaW.PrintLast Go.Proofs.YthdigeknonamaaaW.PrintMore
attribute [local go_sem] max2_int min2_int max_two min_two max_three min_three max_four min_four   -- for this text's walks alone
set_option linter.unusedVariables false
set_option linter.unusedSimpArgs false

/-! ### carillonlaw01_OctetsMany: function 6: by our own printer -/
def carillonlaw01_OctetsMany.l2 (k : Nat) : Nat → (List Int) → Bool → Int → (List Int) → Int → Option (Bool)
  | 0, _, _, _, _, _ => none
  | n2 + 1, y2_0, x2_4, x2_5, y2_6, x2_8 => if x2_8 < (y2_0.length : Int) then ((octets_Get.f k y2_6 (wrap64 (x2_5 * x2_8)) x2_5).bind fun t2007 => (if t2007.2 = true then (if 0 ≤ x2_8 then (if 0 ≤ (IntKind.u64.wrap (wrap64 (8 * x2_5))) then (if t2007.1 = (Go.bits .and .i64 (rd y2_0 x2_8) (wrap64 ((shl .i64 1 (IntKind.u64.wrap (wrap64 (8 * x2_5)))) - 1))) then (carillonlaw01_OctetsMany.l2 k n2 y2_0 x2_4 x2_5 y2_6 (wrap64 (x2_8 + 1))) else (some false)) else (none)) else (none)) else (some false))) else ((octets_Get.f k y2_6 (wrap64 ((wrap64 ((y2_6.length : Int) - x2_5)) + 1)) x2_5).bind fun t2006 => (if t2006.2 = true then (some false) else ((carillonlaw01_awake.f k ).bind fun t2010 => (some t2010))))
def carillonlaw01_OctetsMany.l1 (k : Nat) : Nat → (List Int) → Bool → Int → (List Int) → Int → Option (Bool)
  | 0, _, _, _, _, _ => none
  | n1 + 1, y1_0, x1_4, x1_5, y1_6, x1_7 => if x1_7 < (y1_0.length : Int) then (if 0 ≤ x1_7 then (if 1 ≤ x1_5 then ((octets_Put.f y1_6 (rd y1_0 x1_7) x1_5).bind fun t1006 => (carillonlaw01_OctetsMany.l1 k n1 y1_0 x1_4 x1_5 t1006 (wrap64 (x1_7 + 1)))) else (carillonlaw01_OctetsMany.l1 k n1 y1_0 x1_4 x1_5 y1_6 (wrap64 (x1_7 + 1)))) else (none)) else (if (y1_6.length : Int) = (wrap64 (x1_5 * (y1_0.length : Int))) then (carillonlaw01_OctetsMany.l2 k k y1_0 x1_4 x1_5 y1_6 0) else (some false))
def carillonlaw01_OctetsMany.f (k : Nat) (l0 : List Int) (a1 : Int) : Option (Bool) := (carillonlaw00_Place.f a1 7).bind fun t5 => (if (l0.length : Int) > 100 then (if 100 ≤ (l0.length : Int) then (carillonlaw01_OctetsMany.l1 k k (l0.take (100 : Int).toNat) false (wrap64 (1 + t5)) [] 0) else (none)) else (carillonlaw01_OctetsMany.l1 k k l0 false (wrap64 (1 + t5)) [] 0))
open Go.Proofs.Ythdigeknonamaaa.E in
set_option maxHeartbeats 8000000 in
set_option maxRecDepth 100000 in
theorem carillonlaw01_OctetsMany.calls (k : Nat) (A0 : Option Addr) (c0 : Nat) (l0 : List Int) (a1 : Int) (w : World) (HR0 : Kd.C (Kd.int .i64) w A0 l0.length l0) (HC0 : l0.length ≤ c0) (h : carillonlaw01_OctetsMany.f k l0 a1 = some true) :
    Calls Try.prog 6 #[.slice A0 l0.length c0, .int .i64 a1] w fun e w' => e = .returned (.bool true) ∧ Below w.heap.size w w' := by
  have H := h
  clear h
  unfold carillonlaw01_OctetsMany.f at H
  obtain ⟨t5, At5, H⟩ := Option.bind_eq_some_iff.mp H
  by_cases c1 : (l0.length : Int) > 100
  rotate_left
  · rw [if_neg c1] at H
    refine calls_of_wp (fn := Try.f6) (by kernel_rfl) rfl ?_
    have hS := St.enter #[.slice A0 l0.length c0, .int .i64 a1] 88 (by simp) [(0, .slice A0 l0.length c0), (1, .int .i64 a1)] (by simp)
    have HB0 := Below.refl w.heap.size w
    refine wp_seq_k (fun K1 hK1 => ?_)
    refine reg_seq (N := 88) (bs := [(0, .slice A0 l0.length c0), (1, .int .i64 a1)]) (I := fun x => Below w.heap.size w x) (ps := [IsV (.bool false)]) (by kernel_rfl) ?_ ?_ rfl hS HB0 ?_ ?_
    · exact fun x y hI hb => below_step hI hb
    · exact .v (.nil)
    · refine .on rfl (fun a w hS hI hp => does_val (x_assign rfl (rfl)) rfl) ?_
      exact .nil
    clear hS
    intro at2 w3 hS hI hp
    have hBw3_w := hI
    have hv4 : sl _ 4 = .bool false := hp 0 (by decide)
    have hBw3_w3 := Below.refl w3.heap.size w3
    have hS := hS.cons hv4
    clear hp hI hv4
    refine hK1 _ _ ?_
    (try clear hK1 K1)
    refine wp_seq_k (fun K4 hK4 => ?_)
    refine reg_seq (N := 88) (bs := [(4, .bool false), (0, .slice A0 l0.length c0), (1, .int .i64 a1)]) (I := fun x => Below w.heap.size w x ∧ Below w3.heap.size w3 x) (ps := [IsV (.int .i64 a1), IsV (.int .i64 t5), IsV (.int .i64 (wrap64 (1 + t5))), IsV (.int .i64 (wrap64 (1 + t5)))]) (by kernel_rfl) ?_ ?_ rfl hS ⟨hBw3_w, hBw3_w3⟩ ?_ ?_
    · exact fun x y hI hb => ⟨below_step hI.1 hb, below_step hI.2 hb⟩
    · exact .v (.v (.v (.v (.nil))))
    · refine .on rfl (fun a w hS hI hp => does_val (x_move rfl (hS.get 2 rfl)) rfl) ?_
      refine .on rfl (fun a w hS hI hp => does_call (by kernel_rfl) (ar2 ((hp.get 0 (by rfl) rfl rfl)) (rfl)) ((carillonlaw00_Place.calls a1 7 t5 _  At5).mono fun _ _ h => ⟨_, h.1, h.2.below, rfl⟩)) ?_
      refine .on rfl (fun a w hS hI hp => does_val (x_bin rfl (rfl) ((hp.get 1 (by rfl) rfl rfl)) (b_add _ _ _ _ _)) rfl) ?_
      refine .on rfl (fun a w hS hI hp => does_val (x_assign rfl ((hp.get 2 (by rfl) rfl rfl))) rfl) ?_
      exact .nil
    clear hS
    intro at6 w7 hS hI hp
    have hBw7_w := hI.1
    have hBw7_w3 := hI.2
    replace hS := ((hS.nil).cons (hS.get 1 rfl)).cons (hS.get 0 rfl)
    have hv5 : sl _ 5 = .int .i64 (wrap64 (1 + t5)) := hp 3 (by decide)
    have hBw7_w7 := Below.refl w7.heap.size w7
    have hS := hS.cons hv5
    clear hp hI hv5
    refine hK4 _ _ ?_
    (try clear hK4 K4)
    refine wp_seq_k (fun K8 hK8 => ?_)
    refine wp_seq_k (fun K9 hK9 => ?_)
    refine reg_seq (N := 88) (bs := [(5, .int .i64 (wrap64 (1 + t5))), (4, .bool false), (0, .slice A0 l0.length c0)]) (I := fun x => Below w.heap.size w x ∧ Below w7.heap.size w7 x) (ps := [IsV (.slice A0 l0.length c0), IsV (.int .i64 (l0.length : Int)), IsV (.bool (decide ((l0.length : Int) > 100)))]) (by kernel_rfl) ?_ ?_ rfl hS ⟨hBw7_w, hBw7_w7⟩ ?_ ?_
    · exact fun x y hI hb => ⟨below_step hI.1 hb, below_step hI.2 hb⟩
    · exact .v (.v (.v (.nil)))
    · refine .on rfl (fun a w hS hI hp => does_val (x_move rfl (hS.get 2 rfl)) rfl) ?_
      refine .on rfl (fun a w hS hI hp => does_val (x_len (e := 3) rfl (by kernel_rfl) ((hp.get 0 (by rfl) rfl rfl))) rfl) ?_
      refine .on rfl (fun a w hS hI hp => does_val (x_bin rfl ((hp.get 1 (by rfl) rfl rfl)) (rfl) (b_gtr _ _ _ _ _ _)) rfl) ?_
      exact .nil
    clear hS
    intro at10 w11 hS hI hp
    have hBw11_w := hI.1
    have hBw11_w7 := hI.2
    have hv18 : sl _ 18 = .bool (decide ((l0.length : Int) > 100)) := hp 2 (by decide)
    have hBw11_w11 := Below.refl w11.heap.size w11
    have hS := hS.cons hv18
    clear hp hI hv18
    refine hK9 _ _ ?_
    (try clear hK9 K9)
    refine wp_cond_false ((hS.get 0 rfl).trans (bF (decide_eq_false c1))) ?_
    refine wp_skip ?_
    refine hK8 _ _ ?_
    (try clear hK8 K8)
    refine wp_seq_k (fun K12 hK12 => ?_)
    refine reg_seq (N := 88) (bs := [(18, .bool (decide ((l0.length : Int) > 100))), (5, .int .i64 (wrap64 (1 + t5))), (4, .bool false), (0, .slice A0 l0.length c0)]) (I := fun x => Below w.heap.size w x ∧ Below w11.heap.size w11 x) (ps := [IsV (.slice none 0 0)]) (by kernel_rfl) ?_ ?_ rfl hS ⟨hBw11_w, hBw11_w11⟩ ?_ ?_
    · exact fun x y hI hb => ⟨below_step hI.1 hb, below_step hI.2 hb⟩
    · exact .v (.nil)
    · refine .on rfl (fun a w hS hI hp => does_val (x_assign rfl (rfl)) rfl) ?_
      exact .nil
    clear hS
    intro at13 w14 hS hI hp
    have hBw14_w := hI.1
    have hBw14_w11 := hI.2
    have hv6 : sl _ 6 = .slice none 0 0 := hp 0 (by decide)
    have hBw14_w14 := Below.refl w14.heap.size w14
    have hS := hS.cons hv6
    clear hp hI hv6
    refine hK12 _ _ ?_
    (try clear hK12 K12)
    refine wp_seq_k (fun K15 hK15 => ?_)
    refine wp_seq_k (fun K16 hK16 => ?_)
    refine reg_seq (N := 88) (bs := [(6, .slice none 0 0), (18, .bool (decide ((l0.length : Int) > 100))), (5, .int .i64 (wrap64 (1 + t5))), (4, .bool false), (0, .slice A0 l0.length c0)]) (I := fun x => Below w.heap.size w x ∧ Below w14.heap.size w14 x) (ps := [IsV (.int .i64 0)]) (by kernel_rfl) ?_ ?_ rfl hS ⟨hBw14_w, hBw14_w14⟩ ?_ ?_
    · exact fun x y hI hb => ⟨below_step hI.1 hb, below_step hI.2 hb⟩
    · exact .v (.nil)
    · refine .on rfl (fun a w hS hI hp => does_val (x_assign rfl (rfl)) rfl) ?_
      exact .nil
    clear hS
    intro at17 w18 hS hI hp
    have hBw18_w := hI.1
    have hBw18_w14 := hI.2
    have hv7 : sl _ 7 = .int .i64 0 := hp 0 (by decide)
    have hBw18_w18 := Below.refl w18.heap.size w18
    have hS := hS.cons hv7
    clear hp hI hv7
    refine hK16 _ _ ?_
    (try clear hK16 K16)
    refine wp_block ?_
    replace hS := (((((hS.nil).cons (hS.get 0 rfl)).cons (hS.get 1 rfl)).cons (hS.get 3 rfl)).cons (hS.get 4 rfl)).cons (hS.get 5 rfl)
    refine wp_loop_ghost (fun n_ a_ wL1 => ∃ (y1_0 : List Int) (AL1_0 : Option Addr) (CL1_0 : Nat) (x1_4 : Bool) (x1_5 : Int) (y1_6 : List Int) (AL1_6 : Option Addr) (CL1_6 : Nat) (x1_7 : Int), carillonlaw01_OctetsMany.l1 k n_ y1_0 x1_4 x1_5 y1_6 x1_7 = some true ∧ St 88 [(0, .slice AL1_0 y1_0.length CL1_0), (4, .bool x1_4), (5, .int .i64 x1_5), (6, .slice AL1_6 y1_6.length CL1_6), (7, .int .i64 x1_7)] a_ ∧ Below w.heap.size w wL1 ∧ y1_0.length ≤ CL1_0 ∧ Kd.C (Kd.int .i64) wL1 AL1_0 y1_0.length y1_0 ∧ y1_6.length ≤ CL1_6 ∧ Kd.C (Kd.int .u8) wL1 AL1_6 y1_6.length y1_6) k ⟨l0, A0, c0, false, wrap64 (1 + t5), [], none, 0, 0, H, hS, hBw18_w, HC0, (Kd.C_below HR0 hBw18_w), (Nat.le_refl _), (Kd.C_nil _ _)⟩ ?_
    clear H hS
    rintro n1 aL1 wL1 ⟨y1_0, AL1_0, CL1_0, x1_4, x1_5, y1_6, AL1_6, CL1_6, x1_7, H, hS, hBwL1_w, hr1_0, hcL1_0, hr1_6, hcL1_6⟩
    rcases n1 with _ | n1
    · exact absurd H (by simp [carillonlaw01_OctetsMany.l1])
    rw [carillonlaw01_OctetsMany.l1] at H
    (try dsimp only at H)
    by_cases c2 : x1_7 < (y1_0.length : Int)
    · rw [if_pos c2] at H
      by_cases c3 : 0 ≤ x1_7
      rotate_left
      · rw [if_neg c3] at H
        exact absurd H (by simp)
      rw [if_pos c3] at H
      by_cases c4 : 1 ≤ x1_5
      rotate_left
      · rw [if_neg c4] at H
        have hBwL1_wL1 := Below.refl wL1.heap.size wL1
        refine wp_seq_k (fun K1001 hK1001 => ?_)
        refine wp_seq_k (fun K1002 hK1002 => ?_)
        refine reg_seq (N := 88) (bs := [(0, .slice AL1_0 y1_0.length CL1_0), (4, .bool x1_4), (5, .int .i64 x1_5), (6, .slice AL1_6 y1_6.length CL1_6), (7, .int .i64 x1_7)]) (I := fun x => Below w.heap.size w x ∧ Below wL1.heap.size wL1 x) (ps := [IsV (.int .i64 x1_7), IsV (.slice AL1_0 y1_0.length CL1_0), IsV (.int .i64 (y1_0.length : Int)), IsV (.bool (decide (x1_7 < (y1_0.length : Int))))]) (by kernel_rfl) ?_ ?_ rfl hS ⟨hBwL1_w, hBwL1_wL1⟩ ?_ ?_
        · exact fun x y hI hb => ⟨below_step hI.1 hb, below_step hI.2 hb⟩
        · exact .v (.v (.v (.v (.nil))))
        · refine .on rfl (fun a w hS hI hp => does_val (x_move rfl (hS.get 4 rfl)) rfl) ?_
          refine .on rfl (fun a w hS hI hp => does_val (x_move rfl (hS.get 0 rfl)) rfl) ?_
          refine .on rfl (fun a w hS hI hp => does_val (x_len (e := 3) rfl (by kernel_rfl) ((hp.get 1 (by rfl) rfl rfl))) rfl) ?_
          refine .on rfl (fun a w hS hI hp => does_val (x_bin rfl ((hp.get 0 (by rfl) rfl rfl)) ((hp.get 2 (by rfl) rfl rfl)) (b_lss _ _ _ _ _ _)) rfl) ?_
          exact .nil
        clear hS
        intro at1003 w1004 hS hI hp
        have hBw1004_w := hI.1
        have hBw1004_wL1 := hI.2
        have hv21 : sl _ 21 = .int .i64 x1_7 := hp 0 (by decide)
        have hv22 : sl _ 22 = .slice AL1_0 y1_0.length CL1_0 := hp 1 (by decide)
        have hv23 : sl _ 23 = .int .i64 (y1_0.length : Int) := hp 2 (by decide)
        have hv24 : sl _ 24 = .bool (decide (x1_7 < (y1_0.length : Int))) := hp 3 (by decide)
        have hBw1004_w1004 := Below.refl w1004.heap.size w1004
        have hS := hS.cons hv21
        have hS := hS.cons hv22
        have hS := hS.cons hv23
        have hS := hS.cons hv24
        clear hp hI hv21 hv22 hv23 hv24
        refine hK1002 _ _ ?_
        (try clear hK1002 K1002)
        refine wp_cond_true ((hS.get 0 rfl).trans (bT (decide_eq_true c2))) ?_
        refine wp_skip ?_
        refine hK1001 _ _ ?_
        (try clear hK1001 K1001)
        refine wp_seq_k (fun K1005 hK1005 => ?_)
        refine wp_block ?_
        refine reg_seq_tail 7 (N := 88) (bs := [(24, .bool (decide (x1_7 < (y1_0.length : Int)))), (23, .int .i64 (y1_0.length : Int)), (22, .slice AL1_0 y1_0.length CL1_0), (21, .int .i64 x1_7), (0, .slice AL1_0 y1_0.length CL1_0), (4, .bool x1_4), (5, .int .i64 x1_5), (6, .slice AL1_6 y1_6.length CL1_6), (7, .int .i64 x1_7)]) (I := fun x => Below w.heap.size w x ∧ Below wL1.heap.size wL1 x ∧ Below w1004.heap.size w1004 x) (ps := [IsV (.slice AL1_6 y1_6.length CL1_6), IsV (.slice AL1_0 y1_0.length CL1_0), IsV (.int .i64 x1_7), IsA (.int .i64 (rd y1_0 x1_7)), IsV (.int .i64 (rd y1_0 x1_7)), IsV (.int .i64 x1_5), IsV (.slice AL1_6 y1_6.length y1_6.length)]) (by kernel_rfl) ?_ ?_ rfl hS ⟨hBw1004_w, hBw1004_wL1, hBw1004_w1004⟩ ?_ ?_
        · exact fun x y hI hb => ⟨below_step hI.1 hb, below_step hI.2.1 hb, below_step hI.2.2 hb⟩
        · exact .v (.v (.v (.cons (Stays.a _) (.v (.v (.v (.nil)))))))
        · refine .on rfl (fun a w hS hI hp => does_val (x_move rfl (hS.get 7 rfl)) rfl) ?_
          refine .on rfl (fun a w hS hI hp => does_val (x_move rfl (hS.get 4 rfl)) rfl) ?_
          refine .on rfl (fun a w hS hI hp => does_val (x_move rfl (hS.get 8 rfl)) rfl) ?_
          refine .on rfl (fun a w hS hI hp => does_index (e := 3) (xs := y1_0) rfl ((hp.get 1 (by rfl) rfl rfl)) ((hp.get 2 (by rfl) rfl rfl)) (by kernel_rfl) (by kernel_rfl) c3 c2 c2 ((Kd.C_below hcL1_0 hI.2.1))) ?_
          refine .on rfl (fun a w hS hI hp => ((hp.get 3 (by rfl) rfl rfl)).elim fun _ h_ => does_val (x_load1 (d := .int .i64) rfl h_.1 (by kernel_rfl) rfl h_.2.2) rfl) ?_
          refine .on rfl (fun a w hS hI hp => does_val (x_move rfl (hS.get 6 rfl)) rfl) ?_
          refine .on rfl (fun a w hS hI hp => does_call (by kernel_rfl) (ar3 ((hp.get 0 (by rfl) rfl rfl)) ((hp.get 4 (by rfl) rfl rfl)) ((hp.get 5 (by rfl) rfl rfl))) ((octets_Put.calls0 _ _ y1_6 _ _ _ hr1_6 c4).mono fun _ _ h => ⟨_, h.1, h.2, rfl⟩)) ?_
          exact .nil
        clear hS
        intro at1006 w1007 hS hI hp
        have hBw1007_w := hI.1
        have hBw1007_wL1 := hI.2.1
        have hBw1007_w1004 := hI.2.2
        have hv27 : sl _ 27 = .slice AL1_6 y1_6.length CL1_6 := hp 0 (by decide)
        have hv28 : sl _ 28 = .slice AL1_0 y1_0.length CL1_0 := hp 1 (by decide)
        have hv29 : sl _ 29 = .int .i64 x1_7 := hp 2 (by decide)
        have hv31 : sl _ 31 = .int .i64 (rd y1_0 x1_7) := hp 4 (by decide)
        have hv32 : sl _ 32 = .int .i64 x1_5 := hp 5 (by decide)
        have hv33 : sl _ 33 = .slice AL1_6 y1_6.length y1_6.length := hp 6 (by decide)
        have hBw1007_w1007 := Below.refl w1007.heap.size w1007
        have hS := hS.cons hv27
        have hS := hS.cons hv28
        have hS := hS.cons hv29
        have hS := hS.cons hv31
        have hS := hS.cons hv32
        have hS := hS.cons hv33
        clear hp hI hv27 hv28 hv29 hv31 hv32 hv33
        show wpList _ _ _ [_] _ _
        refine list_step rfl (R := fun v w' => Below _ _ w' ∧ (IsV (.slice AL1_6 y1_6.length y1_6.length)) v w') (does_val (x_assign rfl (hS.get 0 rfl)) rfl) ?_
        rintro vw1008 w1008 ⟨hb, he⟩
        have hBw1008_w := below_step hBw1007_w hb
        have hBw1008_wL1 := below_step hBw1007_wL1 hb
        have hBw1008_w1007 := below_step hBw1007_w1007 hb
        have hBw1008_w1008 := Below.refl w1008.heap.size w1008
        obtain rfl : vw1008 = .slice AL1_6 y1_6.length y1_6.length := he
        replace hS := ((((((((((((((hS.nil).cons (hS.get 14 rfl)).cons (hS.get 12 rfl)).cons (hS.get 11 rfl)).cons (hS.get 10 rfl)).cons (hS.get 9 rfl)).cons (hS.get 8 rfl)).cons (hS.get 7 rfl)).cons (hS.get 6 rfl)).cons (hS.get 5 rfl)).cons (hS.get 4 rfl)).cons (hS.get 3 rfl)).cons (hS.get 2 rfl)).cons (hS.get 1 rfl)).cons (hS.get 0 rfl)
        refine hS.next (v := .slice AL1_6 y1_6.length y1_6.length) (d := 6) rfl (by decide) (by rfl) ?_
        clear hS
        intro at1009 hS
        refine wpList_nil ?_
        refine hK1005 _ _ ?_
        (try clear hK1005 K1005)
        refine reg_seq_tail 2 (N := 88) (bs := [(6, .slice AL1_6 y1_6.length y1_6.length), (33, .slice AL1_6 y1_6.length y1_6.length), (32, .int .i64 x1_5), (31, .int .i64 (rd y1_0 x1_7)), (29, .int .i64 x1_7), (28, .slice AL1_0 y1_0.length CL1_0), (27, .slice AL1_6 y1_6.length CL1_6), (24, .bool (decide (x1_7 < (y1_0.length : Int)))), (23, .int .i64 (y1_0.length : Int)), (22, .slice AL1_0 y1_0.length CL1_0), (21, .int .i64 x1_7), (0, .slice AL1_0 y1_0.length CL1_0), (4, .bool x1_4), (5, .int .i64 x1_5), (7, .int .i64 x1_7)]) (I := fun x => Below w.heap.size w x ∧ Below wL1.heap.size wL1 x ∧ Below w1008.heap.size w1008 x) (ps := [IsV (.int .i64 x1_7), IsV (.int .i64 (wrap64 (x1_7 + 1)))]) (by kernel_rfl) ?_ ?_ rfl hS ⟨hBw1008_w, hBw1008_wL1, hBw1008_w1008⟩ ?_ ?_
        · exact fun x y hI hb => ⟨below_step hI.1 hb, below_step hI.2.1 hb, below_step hI.2.2 hb⟩
        · exact .v (.v (.nil))
        · refine .on rfl (fun a w hS hI hp => does_val (x_move rfl (hS.get 14 rfl)) rfl) ?_
          refine .on rfl (fun a w hS hI hp => does_val (x_bin rfl ((hp.get 0 (by rfl) rfl rfl)) (rfl) (b_add _ _ _ _ _)) rfl) ?_
          exact .nil
        clear hS
        intro at1010 w1011 hS hI hp
        have hBw1011_w := hI.1
        have hBw1011_wL1 := hI.2.1
        have hBw1011_w1008 := hI.2.2
        have hv25 : sl _ 25 = .int .i64 x1_7 := hp 0 (by decide)
        have hv26 : sl _ 26 = .int .i64 (wrap64 (x1_7 + 1)) := hp 1 (by decide)
        have hBw1011_w1011 := Below.refl w1011.heap.size w1011
        have hS := hS.cons hv25
        have hS := hS.cons hv26
        clear hp hI hv25 hv26
        show wpList _ _ _ [_] _ _
        refine list_step rfl (R := fun v w' => Below _ _ w' ∧ (IsV (.int .i64 (wrap64 (x1_7 + 1)))) v w') (does_val (x_assign rfl (hS.get 0 rfl)) rfl) ?_
        rintro vw1012 w1012 ⟨hb, he⟩
        have hBw1012_w := below_step hBw1011_w hb
        have hBw1012_wL1 := below_step hBw1011_wL1 hb
        have hBw1012_w1011 := below_step hBw1011_w1011 hb
        have hBw1012_w1012 := Below.refl w1012.heap.size w1012
        obtain rfl : vw1012 = .int .i64 (wrap64 (x1_7 + 1)) := he
        replace hS := ((((((((((((((((hS.nil).cons (hS.get 15 rfl)).cons (hS.get 14 rfl)).cons (hS.get 13 rfl)).cons (hS.get 12 rfl)).cons (hS.get 11 rfl)).cons (hS.get 10 rfl)).cons (hS.get 9 rfl)).cons (hS.get 8 rfl)).cons (hS.get 7 rfl)).cons (hS.get 6 rfl)).cons (hS.get 5 rfl)).cons (hS.get 4 rfl)).cons (hS.get 3 rfl)).cons (hS.get 2 rfl)).cons (hS.get 1 rfl)).cons (hS.get 0 rfl)
        refine hS.next (v := .int .i64 (wrap64 (x1_7 + 1))) (d := 7) rfl (by decide) (by rfl) ?_
        clear hS
        intro at1013 hS
        refine wpList_nil ?_
        replace hS := (((((hS.nil).cons (hS.get 0 rfl)).cons (hS.get 3 rfl)).cons (hS.get 16 rfl)).cons (hS.get 15 rfl)).cons (hS.get 14 rfl)
        (try simp only [Exit.then, Exit.inBlock])
        exact ⟨n1, Nat.lt_succ_self _, y1_0, AL1_0, CL1_0, x1_4, x1_5, y1_6, AL1_6, y1_6.length, wrap64 (x1_7 + 1), H, hS, hBw1012_w, hr1_0, (Kd.C_below hcL1_0 hBw1012_wL1), (Nat.le_refl _), (Kd.C_below hcL1_6 hBw1012_wL1)⟩
      rw [if_pos c4] at H
      obtain ⟨t1006, At1006, H⟩ := Option.bind_eq_some_iff.mp H
      have hBwL1_wL1 := Below.refl wL1.heap.size wL1
      refine wp_seq_k (fun K1001 hK1001 => ?_)
      refine wp_seq_k (fun K1002 hK1002 => ?_)
      refine reg_seq (N := 88) (bs := [(0, .slice AL1_0 y1_0.length CL1_0), (4, .bool x1_4), (5, .int .i64 x1_5), (6, .slice AL1_6 y1_6.length CL1_6), (7, .int .i64 x1_7)]) (I := fun x => Below w.heap.size w x ∧ Below wL1.heap.size wL1 x) (ps := [IsV (.int .i64 x1_7), IsV (.slice AL1_0 y1_0.length CL1_0), IsV (.int .i64 (y1_0.length : Int)), IsV (.bool (decide (x1_7 < (y1_0.length : Int))))]) (by kernel_rfl) ?_ ?_ rfl hS ⟨hBwL1_w, hBwL1_wL1⟩ ?_ ?_
      · exact fun x y hI hb => ⟨below_step hI.1 hb, below_step hI.2 hb⟩
      · exact .v (.v (.v (.v (.nil))))
      · refine .on rfl (fun a w hS hI hp => does_val (x_move rfl (hS.get 4 rfl)) rfl) ?_
        refine .on rfl (fun a w hS hI hp => does_val (x_move rfl (hS.get 0 rfl)) rfl) ?_
        refine .on rfl (fun a w hS hI hp => does_val (x_len (e := 3) rfl (by kernel_rfl) ((hp.get 1 (by rfl) rfl rfl))) rfl) ?_
        refine .on rfl (fun a w hS hI hp => does_val (x_bin rfl ((hp.get 0 (by rfl) rfl rfl)) ((hp.get 2 (by rfl) rfl rfl)) (b_lss _ _ _ _ _ _)) rfl) ?_
        exact .nil
      clear hS
      intro at1003 w1004 hS hI hp
      have hBw1004_w := hI.1
      have hBw1004_wL1 := hI.2
      have hv21 : sl _ 21 = .int .i64 x1_7 := hp 0 (by decide)
      have hv22 : sl _ 22 = .slice AL1_0 y1_0.length CL1_0 := hp 1 (by decide)
      have hv23 : sl _ 23 = .int .i64 (y1_0.length : Int) := hp 2 (by decide)
      have hv24 : sl _ 24 = .bool (decide (x1_7 < (y1_0.length : Int))) := hp 3 (by decide)
      have hBw1004_w1004 := Below.refl w1004.heap.size w1004
      have hS := hS.cons hv21
      have hS := hS.cons hv22
      have hS := hS.cons hv23
      have hS := hS.cons hv24
      clear hp hI hv21 hv22 hv23 hv24
      refine hK1002 _ _ ?_
      (try clear hK1002 K1002)
      refine wp_cond_true ((hS.get 0 rfl).trans (bT (decide_eq_true c2))) ?_
      refine wp_skip ?_
      refine hK1001 _ _ ?_
      (try clear hK1001 K1001)
      refine wp_seq_k (fun K1005 hK1005 => ?_)
      refine wp_block ?_
      refine reg_seq_tail 7 (N := 88) (bs := [(24, .bool (decide (x1_7 < (y1_0.length : Int)))), (23, .int .i64 (y1_0.length : Int)), (22, .slice AL1_0 y1_0.length CL1_0), (21, .int .i64 x1_7), (0, .slice AL1_0 y1_0.length CL1_0), (4, .bool x1_4), (5, .int .i64 x1_5), (6, .slice AL1_6 y1_6.length CL1_6), (7, .int .i64 x1_7)]) (I := fun x => Below w.heap.size w x ∧ Below wL1.heap.size wL1 x ∧ Below w1004.heap.size w1004 x) (ps := [IsV (.slice AL1_6 y1_6.length CL1_6), IsV (.slice AL1_0 y1_0.length CL1_0), IsV (.int .i64 x1_7), IsA (.int .i64 (rd y1_0 x1_7)), IsV (.int .i64 (rd y1_0 x1_7)), IsV (.int .i64 x1_5), IsR (Kd.int .u8) 5 w1004.heap.size t1006]) (by kernel_rfl) ?_ ?_ rfl hS ⟨hBw1004_w, hBw1004_wL1, hBw1004_w1004⟩ ?_ ?_
      · exact fun x y hI hb => ⟨below_step hI.1 hb, below_step hI.2.1 hb, below_step hI.2.2 hb⟩
      · exact .v (.v (.v (.cons (Stays.a _) (.v (.v (.cons (Stays.r _ _ _ _) (.nil)))))))
      · refine .on rfl (fun a w hS hI hp => does_val (x_move rfl (hS.get 7 rfl)) rfl) ?_
        refine .on rfl (fun a w hS hI hp => does_val (x_move rfl (hS.get 4 rfl)) rfl) ?_
        refine .on rfl (fun a w hS hI hp => does_val (x_move rfl (hS.get 8 rfl)) rfl) ?_
        refine .on rfl (fun a w hS hI hp => does_index (e := 3) (xs := y1_0) rfl ((hp.get 1 (by rfl) rfl rfl)) ((hp.get 2 (by rfl) rfl rfl)) (by kernel_rfl) (by kernel_rfl) c3 c2 c2 ((Kd.C_below hcL1_0 hI.2.1))) ?_
        refine .on rfl (fun a w hS hI hp => ((hp.get 3 (by rfl) rfl rfl)).elim fun _ h_ => does_val (x_load1 (d := .int .i64) rfl h_.1 (by kernel_rfl) rfl h_.2.2) rfl) ?_
        refine .on rfl (fun a w hS hI hp => does_val (x_move rfl (hS.get 6 rfl)) rfl) ?_
        refine .on rfl (fun a w hS hI hp => does_call (by kernel_rfl) (ar3 ((hp.get 0 (by rfl) rfl rfl)) ((hp.get 4 (by rfl) rfl rfl)) ((hp.get 5 (by rfl) rfl rfl))) ((octets_Put.calls _ _ y1_6 (rd y1_0 x1_7) x1_5 t1006 _ (Kd.C_below hcL1_6 hI.2.1) hr1_6 At1006).mono fun _ _ h => h.elim fun v0 h => ⟨v0, h.1, h.2.2, Kd.R_lower h.2.1 hI.2.2.size⟩)) ?_
        exact .nil
      clear hS
      intro at1007 w1008 hS hI hp
      have hBw1008_w := hI.1
      have hBw1008_wL1 := hI.2.1
      have hBw1008_w1004 := hI.2.2
      have hv27 : sl _ 27 = .slice AL1_6 y1_6.length CL1_6 := hp 0 (by decide)
      have hv28 : sl _ 28 = .slice AL1_0 y1_0.length CL1_0 := hp 1 (by decide)
      have hv29 : sl _ 29 = .int .i64 x1_7 := hp 2 (by decide)
      have hv31 : sl _ 31 = .int .i64 (rd y1_0 x1_7) := hp 4 (by decide)
      have hv32 : sl _ 32 = .int .i64 x1_5 := hp 5 (by decide)
      obtain ⟨A1009, C1009, hv33, hl1009, hc1009⟩ := Kd.R_reads (show Kd.R (Kd.int .u8) 5 w1008 w1004.heap.size (fun _ => True) (sl _ 33) t1006 from hp 6 (by decide))
      have ho1009 : Kd.R (Kd.int .u8) 5 w1008 w1004.heap.size (fun _ => True) (.slice A1009 t1006.length C1009) t1006 := hv33 ▸ (hp 6 (by decide))
      have hBw1008_w1008 := Below.refl w1008.heap.size w1008
      have hS := hS.cons hv27
      have hS := hS.cons hv28
      have hS := hS.cons hv29
      have hS := hS.cons hv31
      have hS := hS.cons hv32
      have hS := hS.cons hv33
      clear hp hI hv27 hv28 hv29 hv31 hv32 hv33
      show wpList _ _ _ [_] _ _
      refine list_step rfl (R := fun v w' => Below _ _ w' ∧ (IsV (.slice A1009 t1006.length C1009)) v w') (does_val (x_assign rfl (hS.get 0 rfl)) rfl) ?_
      rintro vw1010 w1010 ⟨hb, he⟩
      have hBw1010_w := below_step hBw1008_w hb
      have hBw1010_wL1 := below_step hBw1008_wL1 hb
      have hBw1010_w1004 := below_step hBw1008_w1004 hb
      have hBw1010_w1008 := below_step hBw1008_w1008 hb
      have hBw1010_w1010 := Below.refl w1010.heap.size w1010
      obtain rfl : vw1010 = .slice A1009 t1006.length C1009 := he
      replace hS := ((((((((((((((hS.nil).cons (hS.get 14 rfl)).cons (hS.get 12 rfl)).cons (hS.get 11 rfl)).cons (hS.get 10 rfl)).cons (hS.get 9 rfl)).cons (hS.get 8 rfl)).cons (hS.get 7 rfl)).cons (hS.get 6 rfl)).cons (hS.get 5 rfl)).cons (hS.get 4 rfl)).cons (hS.get 3 rfl)).cons (hS.get 2 rfl)).cons (hS.get 1 rfl)).cons (hS.get 0 rfl)
      refine hS.next (v := .slice A1009 t1006.length C1009) (d := 6) rfl (by decide) (by rfl) ?_
      clear hS
      intro at1011 hS
      refine wpList_nil ?_
      refine hK1005 _ _ ?_
      (try clear hK1005 K1005)
      refine reg_seq_tail 2 (N := 88) (bs := [(6, .slice A1009 t1006.length C1009), (33, .slice A1009 t1006.length C1009), (32, .int .i64 x1_5), (31, .int .i64 (rd y1_0 x1_7)), (29, .int .i64 x1_7), (28, .slice AL1_0 y1_0.length CL1_0), (27, .slice AL1_6 y1_6.length CL1_6), (24, .bool (decide (x1_7 < (y1_0.length : Int)))), (23, .int .i64 (y1_0.length : Int)), (22, .slice AL1_0 y1_0.length CL1_0), (21, .int .i64 x1_7), (0, .slice AL1_0 y1_0.length CL1_0), (4, .bool x1_4), (5, .int .i64 x1_5), (7, .int .i64 x1_7)]) (I := fun x => Below w.heap.size w x ∧ Below wL1.heap.size wL1 x ∧ Below w1004.heap.size w1004 x ∧ Below w1008.heap.size w1008 x ∧ Below w1010.heap.size w1010 x) (ps := [IsV (.int .i64 x1_7), IsV (.int .i64 (wrap64 (x1_7 + 1)))]) (by kernel_rfl) ?_ ?_ rfl hS ⟨hBw1010_w, hBw1010_wL1, hBw1010_w1004, hBw1010_w1008, hBw1010_w1010⟩ ?_ ?_
      · exact fun x y hI hb => ⟨below_step hI.1 hb, below_step hI.2.1 hb, below_step hI.2.2.1 hb, below_step hI.2.2.2.1 hb, below_step hI.2.2.2.2 hb⟩
      · exact .v (.v (.nil))
      · refine .on rfl (fun a w hS hI hp => does_val (x_move rfl (hS.get 14 rfl)) rfl) ?_
        refine .on rfl (fun a w hS hI hp => does_val (x_bin rfl ((hp.get 0 (by rfl) rfl rfl)) (rfl) (b_add _ _ _ _ _)) rfl) ?_
        exact .nil
      clear hS
      intro at1012 w1013 hS hI hp
      have hBw1013_w := hI.1
      have hBw1013_wL1 := hI.2.1
      have hBw1013_w1004 := hI.2.2.1
      have hBw1013_w1008 := hI.2.2.2.1
      have hBw1013_w1010 := hI.2.2.2.2
      have hv25 : sl _ 25 = .int .i64 x1_7 := hp 0 (by decide)
      have hv26 : sl _ 26 = .int .i64 (wrap64 (x1_7 + 1)) := hp 1 (by decide)
      have hBw1013_w1013 := Below.refl w1013.heap.size w1013
      have hS := hS.cons hv25
      have hS := hS.cons hv26
      clear hp hI hv25 hv26
      show wpList _ _ _ [_] _ _
      refine list_step rfl (R := fun v w' => Below _ _ w' ∧ (IsV (.int .i64 (wrap64 (x1_7 + 1)))) v w') (does_val (x_assign rfl (hS.get 0 rfl)) rfl) ?_
      rintro vw1014 w1014 ⟨hb, he⟩
      have hBw1014_w := below_step hBw1013_w hb
      have hBw1014_wL1 := below_step hBw1013_wL1 hb
      have hBw1014_w1004 := below_step hBw1013_w1004 hb
      have hBw1014_w1008 := below_step hBw1013_w1008 hb
      have hBw1014_w1013 := below_step hBw1013_w1013 hb
      have hBw1014_w1014 := Below.refl w1014.heap.size w1014
      obtain rfl : vw1014 = .int .i64 (wrap64 (x1_7 + 1)) := he
      replace hS := ((((((((((((((((hS.nil).cons (hS.get 15 rfl)).cons (hS.get 14 rfl)).cons (hS.get 13 rfl)).cons (hS.get 12 rfl)).cons (hS.get 11 rfl)).cons (hS.get 10 rfl)).cons (hS.get 9 rfl)).cons (hS.get 8 rfl)).cons (hS.get 7 rfl)).cons (hS.get 6 rfl)).cons (hS.get 5 rfl)).cons (hS.get 4 rfl)).cons (hS.get 3 rfl)).cons (hS.get 2 rfl)).cons (hS.get 1 rfl)).cons (hS.get 0 rfl)
      refine hS.next (v := .int .i64 (wrap64 (x1_7 + 1))) (d := 7) rfl (by decide) (by rfl) ?_
      clear hS
      intro at1015 hS
      refine wpList_nil ?_
      replace hS := (((((hS.nil).cons (hS.get 0 rfl)).cons (hS.get 3 rfl)).cons (hS.get 16 rfl)).cons (hS.get 15 rfl)).cons (hS.get 14 rfl)
      (try simp only [Exit.then, Exit.inBlock])
      exact ⟨n1, Nat.lt_succ_self _, y1_0, AL1_0, CL1_0, x1_4, x1_5, t1006, A1009, C1009, wrap64 (x1_7 + 1), H, hS, hBw1014_w, hr1_0, (Kd.C_below hcL1_0 hBw1014_wL1), hl1009, (Kd.C_below hc1009 hBw1014_w1008)⟩
    rw [if_neg c2] at H
    by_cases c3 : (y1_6.length : Int) = (wrap64 (x1_5 * (y1_0.length : Int)))
    rotate_left
    · rw [if_neg c3] at H
      exact absurd H (by simp)
    rw [if_pos c3] at H
    have hBwL1_wL1 := Below.refl wL1.heap.size wL1
    refine wp_seq_k (fun K1001 hK1001 => ?_)
    refine wp_seq_k (fun K1002 hK1002 => ?_)
    refine reg_seq (N := 88) (bs := [(0, .slice AL1_0 y1_0.length CL1_0), (4, .bool x1_4), (5, .int .i64 x1_5), (6, .slice AL1_6 y1_6.length CL1_6), (7, .int .i64 x1_7)]) (I := fun x => Below w.heap.size w x ∧ Below wL1.heap.size wL1 x) (ps := [IsV (.int .i64 x1_7), IsV (.slice AL1_0 y1_0.length CL1_0), IsV (.int .i64 (y1_0.length : Int)), IsV (.bool (decide (x1_7 < (y1_0.length : Int))))]) (by kernel_rfl) ?_ ?_ rfl hS ⟨hBwL1_w, hBwL1_wL1⟩ ?_ ?_
    · exact fun x y hI hb => ⟨below_step hI.1 hb, below_step hI.2 hb⟩
    · exact .v (.v (.v (.v (.nil))))
    · refine .on rfl (fun a w hS hI hp => does_val (x_move rfl (hS.get 4 rfl)) rfl) ?_
      refine .on rfl (fun a w hS hI hp => does_val (x_move rfl (hS.get 0 rfl)) rfl) ?_
      refine .on rfl (fun a w hS hI hp => does_val (x_len (e := 3) rfl (by kernel_rfl) ((hp.get 1 (by rfl) rfl rfl))) rfl) ?_
      refine .on rfl (fun a w hS hI hp => does_val (x_bin rfl ((hp.get 0 (by rfl) rfl rfl)) ((hp.get 2 (by rfl) rfl rfl)) (b_lss _ _ _ _ _ _)) rfl) ?_
      exact .nil
    clear hS
    intro at1003 w1004 hS hI hp
    have hBw1004_w := hI.1
    have hBw1004_wL1 := hI.2
    have hv21 : sl _ 21 = .int .i64 x1_7 := hp 0 (by decide)
    have hv22 : sl _ 22 = .slice AL1_0 y1_0.length CL1_0 := hp 1 (by decide)
    have hv23 : sl _ 23 = .int .i64 (y1_0.length : Int) := hp 2 (by decide)
    have hv24 : sl _ 24 = .bool (decide (x1_7 < (y1_0.length : Int))) := hp 3 (by decide)
    have hBw1004_w1004 := Below.refl w1004.heap.size w1004
    have hS := hS.cons hv21
    have hS := hS.cons hv22
    have hS := hS.cons hv23
    have hS := hS.cons hv24
    clear hp hI hv21 hv22 hv23 hv24
    refine hK1002 _ _ ?_
    (try clear hK1002 K1002)
    refine wp_cond_false ((hS.get 0 rfl).trans (bF (decide_eq_false c2))) ?_
    refine wp_exit ?_
    (try simp only [Exit.then, Exit.inBlock, reduceIte])
    refine hK15 _ _ ?_
    (try clear hK15 K15)
    refine wp_seq_k (fun K1005 hK1005 => ?_)
    refine wp_seq_k (fun K1006 hK1006 => ?_)
    refine reg_seq (N := 88) (bs := [(24, .bool (decide (x1_7 < (y1_0.length : Int)))), (23, .int .i64 (y1_0.length : Int)), (22, .slice AL1_0 y1_0.length CL1_0), (21, .int .i64 x1_7), (0, .slice AL1_0 y1_0.length CL1_0), (4, .bool x1_4), (5, .int .i64 x1_5), (6, .slice AL1_6 y1_6.length CL1_6), (7, .int .i64 x1_7)]) (I := fun x => Below w.heap.size w x ∧ Below wL1.heap.size wL1 x ∧ Below w1004.heap.size w1004 x) (ps := [IsV (.slice AL1_6 y1_6.length CL1_6), IsV (.int .i64 (y1_6.length : Int)), IsV (.int .i64 x1_5), IsV (.slice AL1_0 y1_0.length CL1_0), IsV (.int .i64 (y1_0.length : Int)), IsV (.int .i64 (wrap64 (x1_5 * (y1_0.length : Int)))), IsV (.bool (!decide ((y1_6.length : Int) = (wrap64 (x1_5 * (y1_0.length : Int))))))]) (by kernel_rfl) ?_ ?_ rfl hS ⟨hBw1004_w, hBw1004_wL1, hBw1004_w1004⟩ ?_ ?_
    · exact fun x y hI hb => ⟨below_step hI.1 hb, below_step hI.2.1 hb, below_step hI.2.2 hb⟩
    · exact .v (.v (.v (.v (.v (.v (.v (.nil)))))))
    · refine .on rfl (fun a w hS hI hp => does_val (x_move rfl (hS.get 7 rfl)) rfl) ?_
      refine .on rfl (fun a w hS hI hp => does_val (x_len (e := 5) rfl (by kernel_rfl) ((hp.get 0 (by rfl) rfl rfl))) rfl) ?_
      refine .on rfl (fun a w hS hI hp => does_val (x_move rfl (hS.get 6 rfl)) rfl) ?_
      refine .on rfl (fun a w hS hI hp => does_val (x_move rfl (hS.get 4 rfl)) rfl) ?_
      refine .on rfl (fun a w hS hI hp => does_val (x_len (e := 3) rfl (by kernel_rfl) ((hp.get 3 (by rfl) rfl rfl))) rfl) ?_
      refine .on rfl (fun a w hS hI hp => does_val (x_bin rfl ((hp.get 2 (by rfl) rfl rfl)) ((hp.get 4 (by rfl) rfl rfl)) (b_mul _ _ _ _ _)) rfl) ?_
      refine .on rfl (fun a w hS hI hp => does_val (x_bin rfl ((hp.get 1 (by rfl) rfl rfl)) ((hp.get 5 (by rfl) rfl rfl)) (b_neq _ _ _ _ _ _)) rfl) ?_
      exact .nil
    clear hS
    intro at1007 w1008 hS hI hp
    have hBw1008_w := hI.1
    have hBw1008_wL1 := hI.2.1
    have hBw1008_w1004 := hI.2.2
    replace hS := (((((hS.nil).cons (hS.get 7 rfl)).cons (hS.get 6 rfl)).cons (hS.get 5 rfl)).cons (hS.get 4 rfl)).cons (hS.get 0 rfl)
    have hv40 : sl _ 40 = .bool (!decide ((y1_6.length : Int) = (wrap64 (x1_5 * (y1_0.length : Int))))) := hp 6 (by decide)
    have hBw1008_w1008 := Below.refl w1008.heap.size w1008
    have hS := hS.cons hv40
    clear hp hI hv40
    refine hK1006 _ _ ?_
    (try clear hK1006 K1006)
    refine wp_cond_false ((hS.get 0 rfl).trans (bF (congrArg (!·) (decide_eq_true c3)))) ?_
    refine wp_skip ?_
    refine hK1005 _ _ ?_
    (try clear hK1005 K1005)
    refine wp_seq_k (fun K1009 hK1009 => ?_)
    refine wp_seq_k (fun K1010 hK1010 => ?_)
    refine reg_seq (N := 88) (bs := [(40, .bool (!decide ((y1_6.length : Int) = (wrap64 (x1_5 * (y1_0.length : Int)))))), (24, .bool (decide (x1_7 < (y1_0.length : Int)))), (0, .slice AL1_0 y1_0.length CL1_0), (4, .bool x1_4), (5, .int .i64 x1_5), (6, .slice AL1_6 y1_6.length CL1_6)]) (I := fun x => Below w.heap.size w x ∧ Below wL1.heap.size wL1 x ∧ Below w1008.heap.size w1008 x) (ps := [IsV (.int .i64 0)]) (by kernel_rfl) ?_ ?_ rfl hS ⟨hBw1008_w, hBw1008_wL1, hBw1008_w1008⟩ ?_ ?_
    · exact fun x y hI hb => ⟨below_step hI.1 hb, below_step hI.2.1 hb, below_step hI.2.2 hb⟩
    · exact .v (.nil)
    · refine .on rfl (fun a w hS hI hp => does_val (x_assign rfl (rfl)) rfl) ?_
      exact .nil
    clear hS
    intro at1011 w1012 hS hI hp
    have hBw1012_w := hI.1
    have hBw1012_wL1 := hI.2.1
    have hBw1012_w1008 := hI.2.2
    have hv8 : sl _ 8 = .int .i64 0 := hp 0 (by decide)
    have hBw1012_w1012 := Below.refl w1012.heap.size w1012
    have hS := hS.cons hv8
    clear hp hI hv8
    refine hK1010 _ _ ?_
    (try clear hK1010 K1010)
    refine wp_block ?_
    replace hS := (((((hS.nil).cons (hS.get 0 rfl)).cons (hS.get 6 rfl)).cons (hS.get 5 rfl)).cons (hS.get 4 rfl)).cons (hS.get 3 rfl)
    refine wp_loop_ghost (fun n_ a_ wL2 => ∃ (y2_0 : List Int) (AL2_0 : Option Addr) (CL2_0 : Nat) (x2_4 : Bool) (x2_5 : Int) (y2_6 : List Int) (AL2_6 : Option Addr) (CL2_6 : Nat) (x2_8 : Int), carillonlaw01_OctetsMany.l2 k n_ y2_0 x2_4 x2_5 y2_6 x2_8 = some true ∧ St 88 [(0, .slice AL2_0 y2_0.length CL2_0), (4, .bool x2_4), (5, .int .i64 x2_5), (6, .slice AL2_6 y2_6.length CL2_6), (8, .int .i64 x2_8)] a_ ∧ Below w.heap.size w wL2 ∧ y2_0.length ≤ CL2_0 ∧ Kd.C (Kd.int .i64) wL2 AL2_0 y2_0.length y2_0 ∧ y2_6.length ≤ CL2_6 ∧ Kd.C (Kd.int .u8) wL2 AL2_6 y2_6.length y2_6) k ⟨y1_0, AL1_0, CL1_0, x1_4, x1_5, y1_6, AL1_6, CL1_6, 0, H, hS, hBw1012_w, hr1_0, (Kd.C_below hcL1_0 hBw1012_wL1), hr1_6, (Kd.C_below hcL1_6 hBw1012_wL1)⟩ ?_
    clear H hS
    rintro n2 aL2 wL2 ⟨y2_0, AL2_0, CL2_0, x2_4, x2_5, y2_6, AL2_6, CL2_6, x2_8, H, hS, hBwL2_w, hr2_0, hcL2_0, hr2_6, hcL2_6⟩
    rcases n2 with _ | n2
    · exact absurd H (by simp [carillonlaw01_OctetsMany.l2])
    rw [carillonlaw01_OctetsMany.l2] at H
    (try dsimp only at H)
    by_cases c4 : x2_8 < (y2_0.length : Int)
    rotate_left
    · rw [if_neg c4] at H
      obtain ⟨t2006, At2006, H⟩ := Option.bind_eq_some_iff.mp H
      obtain ⟨t2006_1, t2006_2⟩ := t2006
      (try dsimp only at H)
      by_cases c5 : t2006_2 = true
      · rw [if_pos c5] at H
        exact absurd H (by simp)
      rw [if_neg c5] at H
      obtain ⟨t2010, At2010, H⟩ := Option.bind_eq_some_iff.mp H
      have hret := Option.some.inj H
      clear H
      have hBwL2_wL2 := Below.refl wL2.heap.size wL2
      refine wp_seq_k (fun K2001 hK2001 => ?_)
      refine wp_seq_k (fun K2002 hK2002 => ?_)
      refine reg_seq (N := 88) (bs := [(0, .slice AL2_0 y2_0.length CL2_0), (4, .bool x2_4), (5, .int .i64 x2_5), (6, .slice AL2_6 y2_6.length CL2_6), (8, .int .i64 x2_8)]) (I := fun x => Below w.heap.size w x ∧ Below wL2.heap.size wL2 x) (ps := [IsV (.int .i64 x2_8), IsV (.slice AL2_0 y2_0.length CL2_0), IsV (.int .i64 (y2_0.length : Int)), IsV (.bool (decide (x2_8 < (y2_0.length : Int))))]) (by kernel_rfl) ?_ ?_ rfl hS ⟨hBwL2_w, hBwL2_wL2⟩ ?_ ?_
      · exact fun x y hI hb => ⟨below_step hI.1 hb, below_step hI.2 hb⟩
      · exact .v (.v (.v (.v (.nil))))
      · refine .on rfl (fun a w hS hI hp => does_val (x_move rfl (hS.get 4 rfl)) rfl) ?_
        refine .on rfl (fun a w hS hI hp => does_val (x_move rfl (hS.get 0 rfl)) rfl) ?_
        refine .on rfl (fun a w hS hI hp => does_val (x_len (e := 3) rfl (by kernel_rfl) ((hp.get 1 (by rfl) rfl rfl))) rfl) ?_
        refine .on rfl (fun a w hS hI hp => does_val (x_bin rfl ((hp.get 0 (by rfl) rfl rfl)) ((hp.get 2 (by rfl) rfl rfl)) (b_lss _ _ _ _ _ _)) rfl) ?_
        exact .nil
      clear hS
      intro at2003 w2004 hS hI hp
      have hBw2004_w := hI.1
      have hBw2004_wL2 := hI.2
      have hv41 : sl _ 41 = .int .i64 x2_8 := hp 0 (by decide)
      have hv42 : sl _ 42 = .slice AL2_0 y2_0.length CL2_0 := hp 1 (by decide)
      have hv43 : sl _ 43 = .int .i64 (y2_0.length : Int) := hp 2 (by decide)
      have hv44 : sl _ 44 = .bool (decide (x2_8 < (y2_0.length : Int))) := hp 3 (by decide)
      have hBw2004_w2004 := Below.refl w2004.heap.size w2004
      have hS := hS.cons hv41
      have hS := hS.cons hv42
      have hS := hS.cons hv43
      have hS := hS.cons hv44
      clear hp hI hv41 hv42 hv43 hv44
      refine hK2002 _ _ ?_
      (try clear hK2002 K2002)
      refine wp_cond_false ((hS.get 0 rfl).trans (bF (decide_eq_false c4))) ?_
      refine wp_exit ?_
      (try simp only [Exit.then, Exit.inBlock, reduceIte])
      refine hK1009 _ _ ?_
      (try clear hK1009 K1009)
      refine wp_seq_k (fun K2005 hK2005 => ?_)
      refine reg_seq (N := 88) (bs := [(44, .bool (decide (x2_8 < (y2_0.length : Int)))), (43, .int .i64 (y2_0.length : Int)), (42, .slice AL2_0 y2_0.length CL2_0), (41, .int .i64 x2_8), (0, .slice AL2_0 y2_0.length CL2_0), (4, .bool x2_4), (5, .int .i64 x2_5), (6, .slice AL2_6 y2_6.length CL2_6), (8, .int .i64 x2_8)]) (I := fun x => Below w.heap.size w x ∧ Below wL2.heap.size wL2 x ∧ Below w2004.heap.size w2004 x) (ps := [IsV (.slice AL2_6 y2_6.length CL2_6), IsV (.slice AL2_6 y2_6.length CL2_6), IsV (.int .i64 (y2_6.length : Int)), IsV (.int .i64 x2_5), IsV (.int .i64 (wrap64 ((y2_6.length : Int) - x2_5))), IsV (.int .i64 (wrap64 ((wrap64 ((y2_6.length : Int) - x2_5)) + 1))), IsV (.int .i64 x2_5), IsV (.tuple #[.int .i64 t2006_1, .bool t2006_2]), IsV (.tuple #[.int .i64 t2006_1, .bool t2006_2]), IsV (.int .i64 t2006_1), IsV (.bool t2006_2), IsV (.int .i64 t2006_1), IsV (.bool t2006_2)]) (by kernel_rfl) ?_ ?_ rfl hS ⟨hBw2004_w, hBw2004_wL2, hBw2004_w2004⟩ ?_ ?_
      · exact fun x y hI hb => ⟨below_step hI.1 hb, below_step hI.2.1 hb, below_step hI.2.2 hb⟩
      · exact .v (.v (.v (.v (.v (.v (.v (.v (.v (.v (.v (.v (.v (.nil)))))))))))))
      · refine .on rfl (fun a w hS hI hp => does_val (x_move rfl (hS.get 7 rfl)) rfl) ?_
        refine .on rfl (fun a w hS hI hp => does_val (x_move rfl (hS.get 7 rfl)) rfl) ?_
        refine .on rfl (fun a w hS hI hp => does_val (x_len (e := 5) rfl (by kernel_rfl) ((hp.get 1 (by rfl) rfl rfl))) rfl) ?_
        refine .on rfl (fun a w hS hI hp => does_val (x_move rfl (hS.get 6 rfl)) rfl) ?_
        refine .on rfl (fun a w hS hI hp => does_val (x_bin rfl ((hp.get 2 (by rfl) rfl rfl)) ((hp.get 3 (by rfl) rfl rfl)) (b_sub _ _ _ _ _)) rfl) ?_
        refine .on rfl (fun a w hS hI hp => does_val (x_bin rfl ((hp.get 4 (by rfl) rfl rfl)) (rfl) (b_add _ _ _ _ _)) rfl) ?_
        refine .on rfl (fun a w hS hI hp => does_val (x_move rfl (hS.get 6 rfl)) rfl) ?_
        refine .on rfl (fun a w hS hI hp => does_call (by kernel_rfl) (ar3 ((hp.get 0 (by rfl) rfl rfl)) ((hp.get 5 (by rfl) rfl rfl)) ((hp.get 6 (by rfl) rfl rfl))) ((octets_Get.calls k _ _ y2_6 (wrap64 ((wrap64 ((y2_6.length : Int) - x2_5)) + 1)) x2_5 t2006_1 t2006_2 _ (Kd.C_below hcL2_6 hI.2.1) hr2_6 At2006).mono fun _ _ h => ⟨_, h.1, h.2.below, rfl⟩)) ?_
        refine .on rfl (fun a w hS hI hp => does_val (x_move rfl ((hp.get 7 (by rfl) rfl rfl))) rfl) ?_
        refine .on rfl (fun a w hS hI hp => does_val (x_extract rfl ((hp.get 8 (by rfl) rfl rfl)) rfl) rfl) ?_
        refine .on rfl (fun a w hS hI hp => does_val (x_extract rfl ((hp.get 8 (by rfl) rfl rfl)) rfl) rfl) ?_
        refine .on rfl (fun a w hS hI hp => does_val (x_assign rfl ((hp.get 9 (by rfl) rfl rfl))) rfl) ?_
        refine .on rfl (fun a w hS hI hp => does_val (x_assign rfl ((hp.get 10 (by rfl) rfl rfl))) rfl) ?_
        exact .nil
      clear hS
      intro at2007 w2008 hS hI hp
      have hBw2008_w := hI.1
      have hBw2008_wL2 := hI.2.1
      have hBw2008_w2004 := hI.2.2
      replace hS := ((hS.nil).cons (hS.get 5 rfl)).cons (hS.get 0 rfl)
      have hv12 : sl _ 12 = .bool t2006_2 := hp 12 (by decide)
      have hBw2008_w2008 := Below.refl w2008.heap.size w2008
      have hS := hS.cons hv12
      clear hp hI hv12
      refine hK2005 _ _ ?_
      (try clear hK2005 K2005)
      refine wp_seq_k (fun K2009 hK2009 => ?_)
      replace hS := ((hS.nil).cons (hS.get 1 rfl)).cons (hS.get 0 rfl)
      refine reg_seq (N := 88) (bs := [(12, .bool t2006_2), (44, .bool (decide (x2_8 < (y2_0.length : Int))))]) (I := fun x => Below w.heap.size w x ∧ Below w2008.heap.size w2008 x) (ps := [IsV (.bool t2006_2), IsV (.bool (!t2006_2)), IsV (.bool (!t2006_2)), IsV (.bool t2010), IsV (.bool t2010), IsV (.bool t2010)]) (by kernel_rfl) ?_ ?_ rfl hS ⟨hBw2008_w, hBw2008_w2008⟩ ?_ ?_
      · exact fun x y hI hb => ⟨below_step hI.1 hb, below_step hI.2 hb⟩
      · exact .v (.v (.v (.v (.v (.v (.nil))))))
      · refine .on rfl (fun a w hS hI hp => does_val (x_move rfl (hS.get 0 rfl)) rfl) ?_
        refine .on rfl (fun a w hS hI hp => does_val (x_not rfl ((hp.get 0 (by rfl) rfl rfl))) rfl) ?_
        refine .on rfl (fun a w hS hI hp => does_val (x_move rfl ((hp.get 1 (by rfl) rfl rfl))) rfl) ?_
        refine .of (fun a w hS hI hp => ok_y (d := 85) hS rfl rfl rfl (((hp.get 2 (by rfl) rfl rfl)).trans (bT (congrArg (!·) (Bool.eq_false_iff.2 c5)))) (does_call (by kernel_rfl) rfl ((carillonlaw01_awake.calls k  t2010 _  At2010).mono fun _ _ h => ⟨_, h.1, h.2, rfl⟩))) ?_
        refine .on rfl (fun a w hS hI hp => does_val (x_pickT rfl (((hp.get 2 (by rfl) rfl rfl)).trans (bT (congrArg (!·) (Bool.eq_false_iff.2 c5)))) ((hp.get 3 (by rfl) rfl rfl))) rfl) ?_
        refine .on rfl (fun a w hS hI hp => does_val (x_assign rfl ((hp.get 4 (by rfl) rfl rfl))) rfl) ?_
        exact .nil
      clear hS
      intro at2011 w2012 hS hI hp
      have hBw2012_w := hI.1
      have hBw2012_w2008 := hI.2
      replace hS := (hS.nil).cons (hS.get 1 rfl)
      have hv4 : sl _ 4 = .bool t2010 := hp 5 (by decide)
      have hBw2012_w2012 := Below.refl w2012.heap.size w2012
      have hS := hS.cons hv4
      clear hp hI hv4
      refine hK2009 _ _ ?_
      (try clear hK2009 K2009)
      refine wp_ret ?_
      (try simp only [Exit.then, Exit.inBlock])
      exact bodyPost_ret (v := .bool true) (by rw [results_tmp rfl]; exact congrArg (Result.ok · _) ((hS.get 0 rfl).trans (congrArg Value.bool hret))) hS.nodef ⟨rfl, hBw2012_w⟩
    rw [if_pos c4] at H
    obtain ⟨t2007, At2007, H⟩ := Option.bind_eq_some_iff.mp H
    obtain ⟨t2007_1, t2007_2⟩ := t2007
    (try dsimp only at H)
    by_cases c5 : t2007_2 = true
    rotate_left
    · rw [if_neg c5] at H
      exact absurd H (by simp)
    rw [if_pos c5] at H
    by_cases c6 : 0 ≤ x2_8
    rotate_left
    · rw [if_neg c6] at H
      exact absurd H (by simp)
    rw [if_pos c6] at H
    by_cases c7 : 0 ≤ (IntKind.u64.wrap (wrap64 (8 * x2_5)))
    rotate_left
    · rw [if_neg c7] at H
      exact absurd H (by simp)
    rw [if_pos c7] at H
    by_cases c8 : t2007_1 = (Go.bits .and .i64 (rd y2_0 x2_8) (wrap64 ((shl .i64 1 (IntKind.u64.wrap (wrap64 (8 * x2_5)))) - 1)))
    rotate_left
    · rw [if_neg c8] at H
      exact absurd H (by simp)
    rw [if_pos c8] at H
    have hBwL2_wL2 := Below.refl wL2.heap.size wL2
    refine wp_seq_k (fun K2001 hK2001 => ?_)
    refine wp_seq_k (fun K2002 hK2002 => ?_)
    refine reg_seq (N := 88) (bs := [(0, .slice AL2_0 y2_0.length CL2_0), (4, .bool x2_4), (5, .int .i64 x2_5), (6, .slice AL2_6 y2_6.length CL2_6), (8, .int .i64 x2_8)]) (I := fun x => Below w.heap.size w x ∧ Below wL2.heap.size wL2 x) (ps := [IsV (.int .i64 x2_8), IsV (.slice AL2_0 y2_0.length CL2_0), IsV (.int .i64 (y2_0.length : Int)), IsV (.bool (decide (x2_8 < (y2_0.length : Int))))]) (by kernel_rfl) ?_ ?_ rfl hS ⟨hBwL2_w, hBwL2_wL2⟩ ?_ ?_
    · exact fun x y hI hb => ⟨below_step hI.1 hb, below_step hI.2 hb⟩
    · exact .v (.v (.v (.v (.nil))))
    · refine .on rfl (fun a w hS hI hp => does_val (x_move rfl (hS.get 4 rfl)) rfl) ?_
      refine .on rfl (fun a w hS hI hp => does_val (x_move rfl (hS.get 0 rfl)) rfl) ?_
      refine .on rfl (fun a w hS hI hp => does_val (x_len (e := 3) rfl (by kernel_rfl) ((hp.get 1 (by rfl) rfl rfl))) rfl) ?_
      refine .on rfl (fun a w hS hI hp => does_val (x_bin rfl ((hp.get 0 (by rfl) rfl rfl)) ((hp.get 2 (by rfl) rfl rfl)) (b_lss _ _ _ _ _ _)) rfl) ?_
      exact .nil
    clear hS
    intro at2003 w2004 hS hI hp
    have hBw2004_w := hI.1
    have hBw2004_wL2 := hI.2
    have hv41 : sl _ 41 = .int .i64 x2_8 := hp 0 (by decide)
    have hv42 : sl _ 42 = .slice AL2_0 y2_0.length CL2_0 := hp 1 (by decide)
    have hv43 : sl _ 43 = .int .i64 (y2_0.length : Int) := hp 2 (by decide)
    have hv44 : sl _ 44 = .bool (decide (x2_8 < (y2_0.length : Int))) := hp 3 (by decide)
    have hBw2004_w2004 := Below.refl w2004.heap.size w2004
    have hS := hS.cons hv41
    have hS := hS.cons hv42
    have hS := hS.cons hv43
    have hS := hS.cons hv44
    clear hp hI hv41 hv42 hv43 hv44
    refine hK2002 _ _ ?_
    (try clear hK2002 K2002)
    refine wp_cond_true ((hS.get 0 rfl).trans (bT (decide_eq_true c4))) ?_
    refine wp_skip ?_
    refine hK2001 _ _ ?_
    (try clear hK2001 K2001)
    refine wp_seq_k (fun K2005 hK2005 => ?_)
    refine wp_block ?_
    refine wp_seq_k (fun K2006 hK2006 => ?_)
    refine reg_seq (N := 88) (bs := [(44, .bool (decide (x2_8 < (y2_0.length : Int)))), (43, .int .i64 (y2_0.length : Int)), (42, .slice AL2_0 y2_0.length CL2_0), (41, .int .i64 x2_8), (0, .slice AL2_0 y2_0.length CL2_0), (4, .bool x2_4), (5, .int .i64 x2_5), (6, .slice AL2_6 y2_6.length CL2_6), (8, .int .i64 x2_8)]) (I := fun x => Below w.heap.size w x ∧ Below wL2.heap.size wL2 x ∧ Below w2004.heap.size w2004 x) (ps := [IsV (.slice AL2_6 y2_6.length CL2_6), IsV (.int .i64 x2_5), IsV (.int .i64 x2_8), IsV (.int .i64 (wrap64 (x2_5 * x2_8))), IsV (.int .i64 x2_5), IsV (.tuple #[.int .i64 t2007_1, .bool t2007_2]), IsV (.tuple #[.int .i64 t2007_1, .bool t2007_2]), IsV (.int .i64 t2007_1), IsV (.bool t2007_2), IsV (.int .i64 t2007_1), IsV (.bool t2007_2)]) (by kernel_rfl) ?_ ?_ rfl hS ⟨hBw2004_w, hBw2004_wL2, hBw2004_w2004⟩ ?_ ?_
    · exact fun x y hI hb => ⟨below_step hI.1 hb, below_step hI.2.1 hb, below_step hI.2.2 hb⟩
    · exact .v (.v (.v (.v (.v (.v (.v (.v (.v (.v (.v (.nil)))))))))))
    · refine .on rfl (fun a w hS hI hp => does_val (x_move rfl (hS.get 7 rfl)) rfl) ?_
      refine .on rfl (fun a w hS hI hp => does_val (x_move rfl (hS.get 6 rfl)) rfl) ?_
      refine .on rfl (fun a w hS hI hp => does_val (x_move rfl (hS.get 8 rfl)) rfl) ?_
      refine .on rfl (fun a w hS hI hp => does_val (x_bin rfl ((hp.get 1 (by rfl) rfl rfl)) ((hp.get 2 (by rfl) rfl rfl)) (b_mul _ _ _ _ _)) rfl) ?_
      refine .on rfl (fun a w hS hI hp => does_val (x_move rfl (hS.get 6 rfl)) rfl) ?_
      refine .on rfl (fun a w hS hI hp => does_call (by kernel_rfl) (ar3 ((hp.get 0 (by rfl) rfl rfl)) ((hp.get 3 (by rfl) rfl rfl)) ((hp.get 4 (by rfl) rfl rfl))) ((octets_Get.calls k _ _ y2_6 (wrap64 (x2_5 * x2_8)) x2_5 t2007_1 t2007_2 _ (Kd.C_below hcL2_6 hI.2.1) hr2_6 At2007).mono fun _ _ h => ⟨_, h.1, h.2.below, rfl⟩)) ?_
      refine .on rfl (fun a w hS hI hp => does_val (x_move rfl ((hp.get 5 (by rfl) rfl rfl))) rfl) ?_
      refine .on rfl (fun a w hS hI hp => does_val (x_extract rfl ((hp.get 6 (by rfl) rfl rfl)) rfl) rfl) ?_
      refine .on rfl (fun a w hS hI hp => does_val (x_extract rfl ((hp.get 6 (by rfl) rfl rfl)) rfl) rfl) ?_
      refine .on rfl (fun a w hS hI hp => does_val (x_assign rfl ((hp.get 7 (by rfl) rfl rfl))) rfl) ?_
      refine .on rfl (fun a w hS hI hp => does_val (x_assign rfl ((hp.get 8 (by rfl) rfl rfl))) rfl) ?_
      exact .nil
    clear hS
    intro at2008 w2009 hS hI hp
    have hBw2009_w := hI.1
    have hBw2009_wL2 := hI.2.1
    have hBw2009_w2004 := hI.2.2
    have hv48 : sl _ 48 = .slice AL2_6 y2_6.length CL2_6 := hp 0 (by decide)
    have hv49 : sl _ 49 = .int .i64 x2_5 := hp 1 (by decide)
    have hv50 : sl _ 50 = .int .i64 x2_8 := hp 2 (by decide)
    have hv51 : sl _ 51 = .int .i64 (wrap64 (x2_5 * x2_8)) := hp 3 (by decide)
    have hv52 : sl _ 52 = .int .i64 x2_5 := hp 4 (by decide)
    have hv53 : sl _ 53 = .tuple #[.int .i64 t2007_1, .bool t2007_2] := hp 5 (by decide)
    have hv47 : sl _ 47 = .tuple #[.int .i64 t2007_1, .bool t2007_2] := hp 6 (by decide)
    have hv54 : sl _ 54 = .int .i64 t2007_1 := hp 7 (by decide)
    have hv55 : sl _ 55 = .bool t2007_2 := hp 8 (by decide)
    have hv9 : sl _ 9 = .int .i64 t2007_1 := hp 9 (by decide)
    have hv10 : sl _ 10 = .bool t2007_2 := hp 10 (by decide)
    have hBw2009_w2009 := Below.refl w2009.heap.size w2009
    have hS := hS.cons hv48
    have hS := hS.cons hv49
    have hS := hS.cons hv50
    have hS := hS.cons hv51
    have hS := hS.cons hv52
    have hS := hS.cons hv53
    have hS := hS.cons hv47
    have hS := hS.cons hv54
    have hS := hS.cons hv55
    have hS := hS.cons hv9
    have hS := hS.cons hv10
    clear hp hI hv48 hv49 hv50 hv51 hv52 hv53 hv47 hv54 hv55 hv9 hv10
    refine hK2006 _ _ ?_
    (try clear hK2006 K2006)
    refine wp_seq_k (fun K2010 hK2010 => ?_)
    refine reg_seq (N := 88) (bs := [(10, .bool t2007_2), (9, .int .i64 t2007_1), (55, .bool t2007_2), (54, .int .i64 t2007_1), (47, .tuple #[.int .i64 t2007_1, .bool t2007_2]), (53, .tuple #[.int .i64 t2007_1, .bool t2007_2]), (52, .int .i64 x2_5), (51, .int .i64 (wrap64 (x2_5 * x2_8))), (50, .int .i64 x2_8), (49, .int .i64 x2_5), (48, .slice AL2_6 y2_6.length CL2_6), (44, .bool (decide (x2_8 < (y2_0.length : Int)))), (43, .int .i64 (y2_0.length : Int)), (42, .slice AL2_0 y2_0.length CL2_0), (41, .int .i64 x2_8), (0, .slice AL2_0 y2_0.length CL2_0), (4, .bool x2_4), (5, .int .i64 x2_5), (6, .slice AL2_6 y2_6.length CL2_6), (8, .int .i64 x2_8)]) (I := fun x => Below w.heap.size w x ∧ Below wL2.heap.size wL2 x ∧ Below w2009.heap.size w2009 x) (ps := [IsV (.bool t2007_2), IsV (.bool (!t2007_2)), IsV (.bool (!t2007_2)), IsV (.int .i64 t2007_1), IsV (.slice AL2_0 y2_0.length CL2_0), IsV (.int .i64 x2_8), IsA (.int .i64 (rd y2_0 x2_8)), IsV (.int .i64 (rd y2_0 x2_8)), IsV (.int .i64 x2_5), IsV (.int .i64 (wrap64 (8 * x2_5))), IsV (.int .u64 (IntKind.u64.wrap (wrap64 (8 * x2_5)))), IsV (.int .i64 (shl .i64 1 (IntKind.u64.wrap (wrap64 (8 * x2_5))))), IsV (.int .i64 (wrap64 ((shl .i64 1 (IntKind.u64.wrap (wrap64 (8 * x2_5)))) - 1))), IsV (.int .i64 (Go.bits .and .i64 (rd y2_0 x2_8) (wrap64 ((shl .i64 1 (IntKind.u64.wrap (wrap64 (8 * x2_5)))) - 1)))), IsV (.bool (!decide (t2007_1 = (Go.bits .and .i64 (rd y2_0 x2_8) (wrap64 ((shl .i64 1 (IntKind.u64.wrap (wrap64 (8 * x2_5)))) - 1)))))), IsV (.bool (!decide (t2007_1 = (Go.bits .and .i64 (rd y2_0 x2_8) (wrap64 ((shl .i64 1 (IntKind.u64.wrap (wrap64 (8 * x2_5)))) - 1))))))]) (by kernel_rfl) ?_ ?_ rfl hS ⟨hBw2009_w, hBw2009_wL2, hBw2009_w2009⟩ ?_ ?_
    · exact fun x y hI hb => ⟨below_step hI.1 hb, below_step hI.2.1 hb, below_step hI.2.2 hb⟩
    · exact .v (.v (.v (.v (.v (.v (.cons (Stays.a _) (.v (.v (.v (.v (.v (.v (.v (.v (.v (.nil))))))))))))))))
    · refine .on rfl (fun a w hS hI hp => does_val (x_move rfl (hS.get 0 rfl)) rfl) ?_
      refine .on rfl (fun a w hS hI hp => does_val (x_not rfl ((hp.get 0 (by rfl) rfl rfl))) rfl) ?_
      refine .on rfl (fun a w hS hI hp => does_val (x_move rfl ((hp.get 1 (by rfl) rfl rfl))) rfl) ?_
      refine .of (fun a w hS hI hp => ok_y (d := 58) hS rfl rfl rfl (((hp.get 2 (by rfl) rfl rfl)).trans (bF (congrArg (!·) c5))) (does_val (x_move rfl (hS.get 1 rfl)) rfl)) ?_
      refine .of (fun a w hS hI hp => ok_y (d := 58) hS rfl rfl rfl (((hp.get 2 (by rfl) rfl rfl)).trans (bF (congrArg (!·) c5))) (does_val (x_move rfl (hS.get 15 rfl)) rfl)) ?_
      refine .of (fun a w hS hI hp => ok_y (d := 58) hS rfl rfl rfl (((hp.get 2 (by rfl) rfl rfl)).trans (bF (congrArg (!·) c5))) (does_val (x_move rfl (hS.get 19 rfl)) rfl)) ?_
      refine .of (fun a w hS hI hp => ok_y (d := 58) hS rfl rfl rfl (((hp.get 2 (by rfl) rfl rfl)).trans (bF (congrArg (!·) c5))) (does_index (e := 3) (xs := y2_0) rfl ((hp.get 4 (by rfl) rfl rfl)) ((hp.get 5 (by rfl) rfl rfl)) (by kernel_rfl) (by kernel_rfl) c6 c4 c4 ((Kd.C_below hcL2_0 hI.2.1)))) ?_
      refine .of (fun a w hS hI hp => ok_y (d := 58) hS rfl rfl rfl (((hp.get 2 (by rfl) rfl rfl)).trans (bF (congrArg (!·) c5))) (((hp.get 6 (by rfl) rfl rfl)).elim fun _ h_ => does_val (x_load1 (d := .int .i64) rfl h_.1 (by kernel_rfl) rfl h_.2.2) rfl)) ?_
      refine .of (fun a w hS hI hp => ok_y (d := 58) hS rfl rfl rfl (((hp.get 2 (by rfl) rfl rfl)).trans (bF (congrArg (!·) c5))) (does_val (x_move rfl (hS.get 17 rfl)) rfl)) ?_
      refine .of (fun a w hS hI hp => ok_y (d := 58) hS rfl rfl rfl (((hp.get 2 (by rfl) rfl rfl)).trans (bF (congrArg (!·) c5))) (does_val (x_bin rfl (rfl) ((hp.get 8 (by rfl) rfl rfl)) (b_mul _ _ _ _ _)) rfl)) ?_
      refine .of (fun a w hS hI hp => ok_y (d := 58) hS rfl rfl rfl (((hp.get 2 (by rfl) rfl rfl)).trans (bF (congrArg (!·) c5))) (does_val (x_convI rfl (by kernel_rfl) (by kernel_rfl) ((hp.get 9 (by rfl) rfl rfl))) rfl)) ?_
      refine .of (fun a w hS hI hp => ok_y (d := 58) hS rfl rfl rfl (((hp.get 2 (by rfl) rfl rfl)).trans (bF (congrArg (!·) c5))) (does_val (x_bin rfl (rfl) ((hp.get 10 (by rfl) rfl rfl)) (b_shl _ _ _ _ _ _ _ c7)) rfl)) ?_
      refine .of (fun a w hS hI hp => ok_y (d := 58) hS rfl rfl rfl (((hp.get 2 (by rfl) rfl rfl)).trans (bF (congrArg (!·) c5))) (does_val (x_bin rfl ((hp.get 11 (by rfl) rfl rfl)) (rfl) (b_sub _ _ _ _ _)) rfl)) ?_
      refine .of (fun a w hS hI hp => ok_y (d := 58) hS rfl rfl rfl (((hp.get 2 (by rfl) rfl rfl)).trans (bF (congrArg (!·) c5))) (does_val (x_bin rfl ((hp.get 7 (by rfl) rfl rfl)) ((hp.get 12 (by rfl) rfl rfl)) (b_and _ _ _ _ _ _)) rfl)) ?_
      refine .of (fun a w hS hI hp => ok_y (d := 58) hS rfl rfl rfl (((hp.get 2 (by rfl) rfl rfl)).trans (bF (congrArg (!·) c5))) (does_val (x_bin rfl ((hp.get 3 (by rfl) rfl rfl)) ((hp.get 13 (by rfl) rfl rfl)) (b_neq _ _ _ _ _ _)) rfl)) ?_
      refine .on rfl (fun a w hS hI hp => does_val (x_pickF rfl (((hp.get 2 (by rfl) rfl rfl)).trans (bF (congrArg (!·) c5))) ((hp.get 14 (by rfl) rfl rfl))) rfl) ?_
      exact .nil
    clear hS
    intro at2011 w2012 hS hI hp
    have hBw2012_w := hI.1
    have hBw2012_wL2 := hI.2.1
    have hBw2012_w2009 := hI.2.2
    have hv56 : sl _ 56 = .bool t2007_2 := hp 0 (by decide)
    have hv57 : sl _ 57 = .bool (!t2007_2) := hp 1 (by decide)
    have hv58 : sl _ 58 = .bool (!t2007_2) := hp 2 (by decide)
    have hv59 : sl _ 59 = .int .i64 t2007_1 := hp 3 (by decide)
    have hv60 : sl _ 60 = .slice AL2_0 y2_0.length CL2_0 := hp 4 (by decide)
    have hv61 : sl _ 61 = .int .i64 x2_8 := hp 5 (by decide)
    have hv63 : sl _ 63 = .int .i64 (rd y2_0 x2_8) := hp 7 (by decide)
    have hv64 : sl _ 64 = .int .i64 x2_5 := hp 8 (by decide)
    have hv65 : sl _ 65 = .int .i64 (wrap64 (8 * x2_5)) := hp 9 (by decide)
    have hv66 : sl _ 66 = .int .u64 (IntKind.u64.wrap (wrap64 (8 * x2_5))) := hp 10 (by decide)
    have hv67 : sl _ 67 = .int .i64 (shl .i64 1 (IntKind.u64.wrap (wrap64 (8 * x2_5)))) := hp 11 (by decide)
    have hv68 : sl _ 68 = .int .i64 (wrap64 ((shl .i64 1 (IntKind.u64.wrap (wrap64 (8 * x2_5)))) - 1)) := hp 12 (by decide)
    have hv69 : sl _ 69 = .int .i64 (Go.bits .and .i64 (rd y2_0 x2_8) (wrap64 ((shl .i64 1 (IntKind.u64.wrap (wrap64 (8 * x2_5)))) - 1))) := hp 13 (by decide)
    have hv70 : sl _ 70 = .bool (!decide (t2007_1 = (Go.bits .and .i64 (rd y2_0 x2_8) (wrap64 ((shl .i64 1 (IntKind.u64.wrap (wrap64 (8 * x2_5)))) - 1))))) := hp 14 (by decide)
    have hv71 : sl _ 71 = .bool (!decide (t2007_1 = (Go.bits .and .i64 (rd y2_0 x2_8) (wrap64 ((shl .i64 1 (IntKind.u64.wrap (wrap64 (8 * x2_5)))) - 1))))) := hp 15 (by decide)
    have hBw2012_w2012 := Below.refl w2012.heap.size w2012
    have hS := hS.cons hv56
    have hS := hS.cons hv57
    have hS := hS.cons hv58
    have hS := hS.cons hv59
    have hS := hS.cons hv60
    have hS := hS.cons hv61
    have hS := hS.cons hv63
    have hS := hS.cons hv64
    have hS := hS.cons hv65
    have hS := hS.cons hv66
    have hS := hS.cons hv67
    have hS := hS.cons hv68
    have hS := hS.cons hv69
    have hS := hS.cons hv70
    have hS := hS.cons hv71
    clear hp hI hv56 hv57 hv58 hv59 hv60 hv61 hv63 hv64 hv65 hv66 hv67 hv68 hv69 hv70 hv71
    refine hK2010 _ _ ?_
    (try clear hK2010 K2010)
    refine wp_cond_false ((hS.get 0 rfl).trans (bF (congrArg (!·) (decide_eq_true c8)))) ?_
    refine wp_skip ?_
    refine hK2005 _ _ ?_
    (try clear hK2005 K2005)
    refine reg_seq_tail 2 (N := 88) (bs := [(71, .bool (!decide (t2007_1 = (Go.bits .and .i64 (rd y2_0 x2_8) (wrap64 ((shl .i64 1 (IntKind.u64.wrap (wrap64 (8 * x2_5)))) - 1)))))), (70, .bool (!decide (t2007_1 = (Go.bits .and .i64 (rd y2_0 x2_8) (wrap64 ((shl .i64 1 (IntKind.u64.wrap (wrap64 (8 * x2_5)))) - 1)))))), (69, .int .i64 (Go.bits .and .i64 (rd y2_0 x2_8) (wrap64 ((shl .i64 1 (IntKind.u64.wrap (wrap64 (8 * x2_5)))) - 1)))), (68, .int .i64 (wrap64 ((shl .i64 1 (IntKind.u64.wrap (wrap64 (8 * x2_5)))) - 1))), (67, .int .i64 (shl .i64 1 (IntKind.u64.wrap (wrap64 (8 * x2_5))))), (66, .int .u64 (IntKind.u64.wrap (wrap64 (8 * x2_5)))), (65, .int .i64 (wrap64 (8 * x2_5))), (64, .int .i64 x2_5), (63, .int .i64 (rd y2_0 x2_8)), (61, .int .i64 x2_8), (60, .slice AL2_0 y2_0.length CL2_0), (59, .int .i64 t2007_1), (58, .bool (!t2007_2)), (57, .bool (!t2007_2)), (56, .bool t2007_2), (10, .bool t2007_2), (9, .int .i64 t2007_1), (55, .bool t2007_2), (54, .int .i64 t2007_1), (47, .tuple #[.int .i64 t2007_1, .bool t2007_2]), (53, .tuple #[.int .i64 t2007_1, .bool t2007_2]), (52, .int .i64 x2_5), (51, .int .i64 (wrap64 (x2_5 * x2_8))), (50, .int .i64 x2_8), (49, .int .i64 x2_5), (48, .slice AL2_6 y2_6.length CL2_6), (44, .bool (decide (x2_8 < (y2_0.length : Int)))), (43, .int .i64 (y2_0.length : Int)), (42, .slice AL2_0 y2_0.length CL2_0), (41, .int .i64 x2_8), (0, .slice AL2_0 y2_0.length CL2_0), (4, .bool x2_4), (5, .int .i64 x2_5), (6, .slice AL2_6 y2_6.length CL2_6), (8, .int .i64 x2_8)]) (I := fun x => Below w.heap.size w x ∧ Below wL2.heap.size wL2 x ∧ Below w2012.heap.size w2012 x) (ps := [IsV (.int .i64 x2_8), IsV (.int .i64 (wrap64 (x2_8 + 1)))]) (by kernel_rfl) ?_ ?_ rfl hS ⟨hBw2012_w, hBw2012_wL2, hBw2012_w2012⟩ ?_ ?_
    · exact fun x y hI hb => ⟨below_step hI.1 hb, below_step hI.2.1 hb, below_step hI.2.2 hb⟩
    · exact .v (.v (.nil))
    · refine .on rfl (fun a w hS hI hp => does_val (x_move rfl (hS.get 34 rfl)) rfl) ?_
      refine .on rfl (fun a w hS hI hp => does_val (x_bin rfl ((hp.get 0 (by rfl) rfl rfl)) (rfl) (b_add _ _ _ _ _)) rfl) ?_
      exact .nil
    clear hS
    intro at2013 w2014 hS hI hp
    have hBw2014_w := hI.1
    have hBw2014_wL2 := hI.2.1
    have hBw2014_w2012 := hI.2.2
    have hv45 : sl _ 45 = .int .i64 x2_8 := hp 0 (by decide)
    have hv46 : sl _ 46 = .int .i64 (wrap64 (x2_8 + 1)) := hp 1 (by decide)
    have hBw2014_w2014 := Below.refl w2014.heap.size w2014
    have hS := hS.cons hv45
    have hS := hS.cons hv46
    clear hp hI hv45 hv46
    show wpList _ _ _ [_] _ _
    refine list_step rfl (R := fun v w' => Below _ _ w' ∧ (IsV (.int .i64 (wrap64 (x2_8 + 1)))) v w') (does_val (x_assign rfl (hS.get 0 rfl)) rfl) ?_
    rintro vw2015 w2015 ⟨hb, he⟩
    have hBw2015_w := below_step hBw2014_w hb
    have hBw2015_wL2 := below_step hBw2014_wL2 hb
    have hBw2015_w2014 := below_step hBw2014_w2014 hb
    have hBw2015_w2015 := Below.refl w2015.heap.size w2015
    obtain rfl : vw2015 = .int .i64 (wrap64 (x2_8 + 1)) := he
    replace hS := ((((((((((((((((((((((((((((((((((((hS.nil).cons (hS.get 35 rfl)).cons (hS.get 34 rfl)).cons (hS.get 33 rfl)).cons (hS.get 32 rfl)).cons (hS.get 31 rfl)).cons (hS.get 30 rfl)).cons (hS.get 29 rfl)).cons (hS.get 28 rfl)).cons (hS.get 27 rfl)).cons (hS.get 26 rfl)).cons (hS.get 25 rfl)).cons (hS.get 24 rfl)).cons (hS.get 23 rfl)).cons (hS.get 22 rfl)).cons (hS.get 21 rfl)).cons (hS.get 20 rfl)).cons (hS.get 19 rfl)).cons (hS.get 18 rfl)).cons (hS.get 17 rfl)).cons (hS.get 16 rfl)).cons (hS.get 15 rfl)).cons (hS.get 14 rfl)).cons (hS.get 13 rfl)).cons (hS.get 12 rfl)).cons (hS.get 11 rfl)).cons (hS.get 10 rfl)).cons (hS.get 9 rfl)).cons (hS.get 8 rfl)).cons (hS.get 7 rfl)).cons (hS.get 6 rfl)).cons (hS.get 5 rfl)).cons (hS.get 4 rfl)).cons (hS.get 3 rfl)).cons (hS.get 2 rfl)).cons (hS.get 1 rfl)).cons (hS.get 0 rfl)
    refine hS.next (v := .int .i64 (wrap64 (x2_8 + 1))) (d := 8) rfl (by decide) (by rfl) ?_
    clear hS
    intro at2016 hS
    refine wpList_nil ?_
    replace hS := (((((hS.nil).cons (hS.get 0 rfl)).cons (hS.get 36 rfl)).cons (hS.get 35 rfl)).cons (hS.get 34 rfl)).cons (hS.get 33 rfl)
    (try simp only [Exit.then, Exit.inBlock])
    exact ⟨n2, Nat.lt_succ_self _, y2_0, AL2_0, CL2_0, x2_4, x2_5, y2_6, AL2_6, CL2_6, wrap64 (x2_8 + 1), H, hS, hBw2015_w, hr2_0, (Kd.C_below hcL2_0 hBw2015_wL2), hr2_6, (Kd.C_below hcL2_6 hBw2015_wL2)⟩
  rw [if_pos c1] at H
  by_cases c2 : 100 ≤ (l0.length : Int)
  rotate_left
  · rw [if_neg c2] at H
    exact absurd H (by simp)
  rw [if_pos c2] at H
  refine calls_of_wp (fn := Try.f6) (by kernel_rfl) rfl ?_
  have hS := St.enter #[.slice A0 l0.length c0, .int .i64 a1] 88 (by simp) [(0, .slice A0 l0.length c0), (1, .int .i64 a1)] (by simp)
  have HB0 := Below.refl w.heap.size w
  refine wp_seq_k (fun K1 hK1 => ?_)
  refine reg_seq (N := 88) (bs := [(0, .slice A0 l0.length c0), (1, .int .i64 a1)]) (I := fun x => Below w.heap.size w x) (ps := [IsV (.bool false)]) (by kernel_rfl) ?_ ?_ rfl hS HB0 ?_ ?_
  · exact fun x y hI hb => below_step hI hb
  · exact .v (.nil)
  · refine .on rfl (fun a w hS hI hp => does_val (x_assign rfl (rfl)) rfl) ?_
    exact .nil
  clear hS
  intro at2 w3 hS hI hp
  have hBw3_w := hI
  have hv4 : sl _ 4 = .bool false := hp 0 (by decide)
  have hBw3_w3 := Below.refl w3.heap.size w3
  have hS := hS.cons hv4
  clear hp hI hv4
  refine hK1 _ _ ?_
  (try clear hK1 K1)
  refine wp_seq_k (fun K4 hK4 => ?_)
  refine reg_seq (N := 88) (bs := [(4, .bool false), (0, .slice A0 l0.length c0), (1, .int .i64 a1)]) (I := fun x => Below w.heap.size w x ∧ Below w3.heap.size w3 x) (ps := [IsV (.int .i64 a1), IsV (.int .i64 t5), IsV (.int .i64 (wrap64 (1 + t5))), IsV (.int .i64 (wrap64 (1 + t5)))]) (by kernel_rfl) ?_ ?_ rfl hS ⟨hBw3_w, hBw3_w3⟩ ?_ ?_
  · exact fun x y hI hb => ⟨below_step hI.1 hb, below_step hI.2 hb⟩
  · exact .v (.v (.v (.v (.nil))))
  · refine .on rfl (fun a w hS hI hp => does_val (x_move rfl (hS.get 2 rfl)) rfl) ?_
    refine .on rfl (fun a w hS hI hp => does_call (by kernel_rfl) (ar2 ((hp.get 0 (by rfl) rfl rfl)) (rfl)) ((carillonlaw00_Place.calls a1 7 t5 _  At5).mono fun _ _ h => ⟨_, h.1, h.2.below, rfl⟩)) ?_
    refine .on rfl (fun a w hS hI hp => does_val (x_bin rfl (rfl) ((hp.get 1 (by rfl) rfl rfl)) (b_add _ _ _ _ _)) rfl) ?_
    refine .on rfl (fun a w hS hI hp => does_val (x_assign rfl ((hp.get 2 (by rfl) rfl rfl))) rfl) ?_
    exact .nil
  clear hS
  intro at6 w7 hS hI hp
  have hBw7_w := hI.1
  have hBw7_w3 := hI.2
  replace hS := ((hS.nil).cons (hS.get 1 rfl)).cons (hS.get 0 rfl)
  have hv5 : sl _ 5 = .int .i64 (wrap64 (1 + t5)) := hp 3 (by decide)
  have hBw7_w7 := Below.refl w7.heap.size w7
  have hS := hS.cons hv5
  clear hp hI hv5
  refine hK4 _ _ ?_
  (try clear hK4 K4)
  refine wp_seq_k (fun K8 hK8 => ?_)
  refine wp_seq_k (fun K9 hK9 => ?_)
  refine reg_seq (N := 88) (bs := [(5, .int .i64 (wrap64 (1 + t5))), (4, .bool false), (0, .slice A0 l0.length c0)]) (I := fun x => Below w.heap.size w x ∧ Below w7.heap.size w7 x) (ps := [IsV (.slice A0 l0.length c0), IsV (.int .i64 (l0.length : Int)), IsV (.bool (decide ((l0.length : Int) > 100)))]) (by kernel_rfl) ?_ ?_ rfl hS ⟨hBw7_w, hBw7_w7⟩ ?_ ?_
  · exact fun x y hI hb => ⟨below_step hI.1 hb, below_step hI.2 hb⟩
  · exact .v (.v (.v (.nil)))
  · refine .on rfl (fun a w hS hI hp => does_val (x_move rfl (hS.get 2 rfl)) rfl) ?_
    refine .on rfl (fun a w hS hI hp => does_val (x_len (e := 3) rfl (by kernel_rfl) ((hp.get 0 (by rfl) rfl rfl))) rfl) ?_
    refine .on rfl (fun a w hS hI hp => does_val (x_bin rfl ((hp.get 1 (by rfl) rfl rfl)) (rfl) (b_gtr _ _ _ _ _ _)) rfl) ?_
    exact .nil
  clear hS
  intro at10 w11 hS hI hp
  have hBw11_w := hI.1
  have hBw11_w7 := hI.2
  have hv18 : sl _ 18 = .bool (decide ((l0.length : Int) > 100)) := hp 2 (by decide)
  have hBw11_w11 := Below.refl w11.heap.size w11
  have hS := hS.cons hv18
  clear hp hI hv18
  refine hK9 _ _ ?_
  (try clear hK9 K9)
  refine wp_cond_true ((hS.get 0 rfl).trans (bT (decide_eq_true c1))) ?_
  refine reg_seq_tail 2 (N := 88) (bs := [(18, .bool (decide ((l0.length : Int) > 100))), (5, .int .i64 (wrap64 (1 + t5))), (4, .bool false), (0, .slice A0 l0.length c0)]) (I := fun x => Below w.heap.size w x ∧ Below w11.heap.size w11 x) (ps := [IsV (.slice A0 l0.length c0), IsV (.slice A0 ((l0.take (100 : Int).toNat).length) c0)]) (by kernel_rfl) ?_ ?_ rfl hS ⟨hBw11_w, hBw11_w11⟩ ?_ ?_
  · exact fun x y hI hb => ⟨below_step hI.1 hb, below_step hI.2 hb⟩
  · exact .v (.v (.nil))
  · refine .on rfl (fun a w hS hI hp => does_val (x_move rfl (hS.get 3 rfl)) rfl) ?_
    refine .on rfl (fun a w hS hI hp => does_val (x_cuthi rfl (e := 3) (xs := l0) (by kernel_rfl) (by kernel_rfl) ((hp.get 0 (by rfl) rfl rfl)) (rfl) (by decide) c2 HC0) rfl) ?_
    exact .nil
  clear hS
  intro at12 w13 hS hI hp
  have hBw13_w := hI.1
  have hBw13_w11 := hI.2
  have hv20 : sl _ 20 = .slice A0 ((l0.take (100 : Int).toNat).length) c0 := hp 1 (by decide)
  have hBw13_w13 := Below.refl w13.heap.size w13
  have hS := hS.cons hv20
  clear hp hI hv20
  show wpList _ _ _ [_] _ _
  refine list_step rfl (R := fun v w' => Below _ _ w' ∧ (IsV (.slice A0 ((l0.take (100 : Int).toNat).length) c0)) v w') (does_val (x_assign rfl (hS.get 0 rfl)) rfl) ?_
  rintro vw14 w14 ⟨hb, he⟩
  have hBw14_w := below_step hBw13_w hb
  have hBw14_w13 := below_step hBw13_w13 hb
  have hBw14_w14 := Below.refl w14.heap.size w14
  obtain rfl : vw14 = .slice A0 ((l0.take (100 : Int).toNat).length) c0 := he
  replace hS := ((((hS.nil).cons (hS.get 3 rfl)).cons (hS.get 2 rfl)).cons (hS.get 1 rfl)).cons (hS.get 0 rfl)
  refine hS.next (v := .slice A0 ((l0.take (100 : Int).toNat).length) c0) (d := 0) rfl (by decide) (by rfl) ?_
  clear hS
  intro at15 hS
  refine wpList_nil ?_
  refine hK8 _ _ ?_
  (try clear hK8 K8)
  refine wp_seq_k (fun K16 hK16 => ?_)
  refine reg_seq (N := 88) (bs := [(0, .slice A0 ((l0.take (100 : Int).toNat).length) c0), (20, .slice A0 ((l0.take (100 : Int).toNat).length) c0), (18, .bool (decide ((l0.length : Int) > 100))), (5, .int .i64 (wrap64 (1 + t5))), (4, .bool false)]) (I := fun x => Below w.heap.size w x ∧ Below w14.heap.size w14 x) (ps := [IsV (.slice none 0 0)]) (by kernel_rfl) ?_ ?_ rfl hS ⟨hBw14_w, hBw14_w14⟩ ?_ ?_
  · exact fun x y hI hb => ⟨below_step hI.1 hb, below_step hI.2 hb⟩
  · exact .v (.nil)
  · refine .on rfl (fun a w hS hI hp => does_val (x_assign rfl (rfl)) rfl) ?_
    exact .nil
  clear hS
  intro at17 w18 hS hI hp
  have hBw18_w := hI.1
  have hBw18_w14 := hI.2
  replace hS := ((((hS.nil).cons (hS.get 4 rfl)).cons (hS.get 3 rfl)).cons (hS.get 2 rfl)).cons (hS.get 0 rfl)
  have hv6 : sl _ 6 = .slice none 0 0 := hp 0 (by decide)
  have hBw18_w18 := Below.refl w18.heap.size w18
  have hS := hS.cons hv6
  clear hp hI hv6
  refine hK16 _ _ ?_
  (try clear hK16 K16)
  refine wp_seq_k (fun K19 hK19 => ?_)
  refine wp_seq_k (fun K20 hK20 => ?_)
  refine reg_seq (N := 88) (bs := [(6, .slice none 0 0), (0, .slice A0 ((l0.take (100 : Int).toNat).length) c0), (18, .bool (decide ((l0.length : Int) > 100))), (5, .int .i64 (wrap64 (1 + t5))), (4, .bool false)]) (I := fun x => Below w.heap.size w x ∧ Below w18.heap.size w18 x) (ps := [IsV (.int .i64 0)]) (by kernel_rfl) ?_ ?_ rfl hS ⟨hBw18_w, hBw18_w18⟩ ?_ ?_
  · exact fun x y hI hb => ⟨below_step hI.1 hb, below_step hI.2 hb⟩
  · exact .v (.nil)
  · refine .on rfl (fun a w hS hI hp => does_val (x_assign rfl (rfl)) rfl) ?_
    exact .nil
  clear hS
  intro at21 w22 hS hI hp
  have hBw22_w := hI.1
  have hBw22_w18 := hI.2
  have hv7 : sl _ 7 = .int .i64 0 := hp 0 (by decide)
  have hBw22_w22 := Below.refl w22.heap.size w22
  have hS := hS.cons hv7
  clear hp hI hv7
  refine hK20 _ _ ?_
  (try clear hK20 K20)
  refine wp_block ?_
  replace hS := (((((hS.nil).cons (hS.get 0 rfl)).cons (hS.get 1 rfl)).cons (hS.get 4 rfl)).cons (hS.get 5 rfl)).cons (hS.get 2 rfl)
  refine wp_loop_ghost (fun n_ a_ wL1 => ∃ (y1_0 : List Int) (AL1_0 : Option Addr) (CL1_0 : Nat) (x1_4 : Bool) (x1_5 : Int) (y1_6 : List Int) (AL1_6 : Option Addr) (CL1_6 : Nat) (x1_7 : Int), carillonlaw01_OctetsMany.l1 k n_ y1_0 x1_4 x1_5 y1_6 x1_7 = some true ∧ St 88 [(0, .slice AL1_0 y1_0.length CL1_0), (4, .bool x1_4), (5, .int .i64 x1_5), (6, .slice AL1_6 y1_6.length CL1_6), (7, .int .i64 x1_7)] a_ ∧ Below w.heap.size w wL1 ∧ y1_0.length ≤ CL1_0 ∧ Kd.C (Kd.int .i64) wL1 AL1_0 y1_0.length y1_0 ∧ y1_6.length ≤ CL1_6 ∧ Kd.C (Kd.int .u8) wL1 AL1_6 y1_6.length y1_6) k ⟨l0.take (100 : Int).toNat, A0, c0, false, wrap64 (1 + t5), [], none, 0, 0, H, hS, hBw22_w, (Nat.le_trans (List.length_take_le' _ _) HC0), (Kd.C_take (m := (100 : Int).toNat) (Kd.C_below HR0 hBw22_w) (by have := c2; omega)), (Nat.le_refl _), (Kd.C_nil _ _)⟩ ?_
  clear H hS
  rintro n1 aL1 wL1 ⟨y1_0, AL1_0, CL1_0, x1_4, x1_5, y1_6, AL1_6, CL1_6, x1_7, H, hS, hBwL1_w, hr1_0, hcL1_0, hr1_6, hcL1_6⟩
  rcases n1 with _ | n1
  · exact absurd H (by simp [carillonlaw01_OctetsMany.l1])
  rw [carillonlaw01_OctetsMany.l1] at H
  (try dsimp only at H)
  by_cases c3 : x1_7 < (y1_0.length : Int)
  · rw [if_pos c3] at H
    by_cases c4 : 0 ≤ x1_7
    rotate_left
    · rw [if_neg c4] at H
      exact absurd H (by simp)
    rw [if_pos c4] at H
    by_cases c5 : 1 ≤ x1_5
    rotate_left
    · rw [if_neg c5] at H
      have hBwL1_wL1 := Below.refl wL1.heap.size wL1
      refine wp_seq_k (fun K1001 hK1001 => ?_)
      refine wp_seq_k (fun K1002 hK1002 => ?_)
      refine reg_seq (N := 88) (bs := [(0, .slice AL1_0 y1_0.length CL1_0), (4, .bool x1_4), (5, .int .i64 x1_5), (6, .slice AL1_6 y1_6.length CL1_6), (7, .int .i64 x1_7)]) (I := fun x => Below w.heap.size w x ∧ Below wL1.heap.size wL1 x) (ps := [IsV (.int .i64 x1_7), IsV (.slice AL1_0 y1_0.length CL1_0), IsV (.int .i64 (y1_0.length : Int)), IsV (.bool (decide (x1_7 < (y1_0.length : Int))))]) (by kernel_rfl) ?_ ?_ rfl hS ⟨hBwL1_w, hBwL1_wL1⟩ ?_ ?_
      · exact fun x y hI hb => ⟨below_step hI.1 hb, below_step hI.2 hb⟩
      · exact .v (.v (.v (.v (.nil))))
      · refine .on rfl (fun a w hS hI hp => does_val (x_move rfl (hS.get 4 rfl)) rfl) ?_
        refine .on rfl (fun a w hS hI hp => does_val (x_move rfl (hS.get 0 rfl)) rfl) ?_
        refine .on rfl (fun a w hS hI hp => does_val (x_len (e := 3) rfl (by kernel_rfl) ((hp.get 1 (by rfl) rfl rfl))) rfl) ?_
        refine .on rfl (fun a w hS hI hp => does_val (x_bin rfl ((hp.get 0 (by rfl) rfl rfl)) ((hp.get 2 (by rfl) rfl rfl)) (b_lss _ _ _ _ _ _)) rfl) ?_
        exact .nil
      clear hS
      intro at1003 w1004 hS hI hp
      have hBw1004_w := hI.1
      have hBw1004_wL1 := hI.2
      have hv21 : sl _ 21 = .int .i64 x1_7 := hp 0 (by decide)
      have hv22 : sl _ 22 = .slice AL1_0 y1_0.length CL1_0 := hp 1 (by decide)
      have hv23 : sl _ 23 = .int .i64 (y1_0.length : Int) := hp 2 (by decide)
      have hv24 : sl _ 24 = .bool (decide (x1_7 < (y1_0.length : Int))) := hp 3 (by decide)
      have hBw1004_w1004 := Below.refl w1004.heap.size w1004
      have hS := hS.cons hv21
      have hS := hS.cons hv22
      have hS := hS.cons hv23
      have hS := hS.cons hv24
      clear hp hI hv21 hv22 hv23 hv24
      refine hK1002 _ _ ?_
      (try clear hK1002 K1002)
      refine wp_cond_true ((hS.get 0 rfl).trans (bT (decide_eq_true c3))) ?_
      refine wp_skip ?_
      refine hK1001 _ _ ?_
      (try clear hK1001 K1001)
      refine wp_seq_k (fun K1005 hK1005 => ?_)
      refine wp_block ?_
      refine reg_seq_tail 7 (N := 88) (bs := [(24, .bool (decide (x1_7 < (y1_0.length : Int)))), (23, .int .i64 (y1_0.length : Int)), (22, .slice AL1_0 y1_0.length CL1_0), (21, .int .i64 x1_7), (0, .slice AL1_0 y1_0.length CL1_0), (4, .bool x1_4), (5, .int .i64 x1_5), (6, .slice AL1_6 y1_6.length CL1_6), (7, .int .i64 x1_7)]) (I := fun x => Below w.heap.size w x ∧ Below wL1.heap.size wL1 x ∧ Below w1004.heap.size w1004 x) (ps := [IsV (.slice AL1_6 y1_6.length CL1_6), IsV (.slice AL1_0 y1_0.length CL1_0), IsV (.int .i64 x1_7), IsA (.int .i64 (rd y1_0 x1_7)), IsV (.int .i64 (rd y1_0 x1_7)), IsV (.int .i64 x1_5), IsV (.slice AL1_6 y1_6.length y1_6.length)]) (by kernel_rfl) ?_ ?_ rfl hS ⟨hBw1004_w, hBw1004_wL1, hBw1004_w1004⟩ ?_ ?_
      · exact fun x y hI hb => ⟨below_step hI.1 hb, below_step hI.2.1 hb, below_step hI.2.2 hb⟩
      · exact .v (.v (.v (.cons (Stays.a _) (.v (.v (.v (.nil)))))))
      · refine .on rfl (fun a w hS hI hp => does_val (x_move rfl (hS.get 7 rfl)) rfl) ?_
        refine .on rfl (fun a w hS hI hp => does_val (x_move rfl (hS.get 4 rfl)) rfl) ?_
        refine .on rfl (fun a w hS hI hp => does_val (x_move rfl (hS.get 8 rfl)) rfl) ?_
        refine .on rfl (fun a w hS hI hp => does_index (e := 3) (xs := y1_0) rfl ((hp.get 1 (by rfl) rfl rfl)) ((hp.get 2 (by rfl) rfl rfl)) (by kernel_rfl) (by kernel_rfl) c4 c3 c3 ((Kd.C_below hcL1_0 hI.2.1))) ?_
        refine .on rfl (fun a w hS hI hp => ((hp.get 3 (by rfl) rfl rfl)).elim fun _ h_ => does_val (x_load1 (d := .int .i64) rfl h_.1 (by kernel_rfl) rfl h_.2.2) rfl) ?_
        refine .on rfl (fun a w hS hI hp => does_val (x_move rfl (hS.get 6 rfl)) rfl) ?_
        refine .on rfl (fun a w hS hI hp => does_call (by kernel_rfl) (ar3 ((hp.get 0 (by rfl) rfl rfl)) ((hp.get 4 (by rfl) rfl rfl)) ((hp.get 5 (by rfl) rfl rfl))) ((octets_Put.calls0 _ _ y1_6 _ _ _ hr1_6 c5).mono fun _ _ h => ⟨_, h.1, h.2, rfl⟩)) ?_
        exact .nil
      clear hS
      intro at1006 w1007 hS hI hp
      have hBw1007_w := hI.1
      have hBw1007_wL1 := hI.2.1
      have hBw1007_w1004 := hI.2.2
      have hv27 : sl _ 27 = .slice AL1_6 y1_6.length CL1_6 := hp 0 (by decide)
      have hv28 : sl _ 28 = .slice AL1_0 y1_0.length CL1_0 := hp 1 (by decide)
      have hv29 : sl _ 29 = .int .i64 x1_7 := hp 2 (by decide)
      have hv31 : sl _ 31 = .int .i64 (rd y1_0 x1_7) := hp 4 (by decide)
      have hv32 : sl _ 32 = .int .i64 x1_5 := hp 5 (by decide)
      have hv33 : sl _ 33 = .slice AL1_6 y1_6.length y1_6.length := hp 6 (by decide)
      have hBw1007_w1007 := Below.refl w1007.heap.size w1007
      have hS := hS.cons hv27
      have hS := hS.cons hv28
      have hS := hS.cons hv29
      have hS := hS.cons hv31
      have hS := hS.cons hv32
      have hS := hS.cons hv33
      clear hp hI hv27 hv28 hv29 hv31 hv32 hv33
      show wpList _ _ _ [_] _ _
      refine list_step rfl (R := fun v w' => Below _ _ w' ∧ (IsV (.slice AL1_6 y1_6.length y1_6.length)) v w') (does_val (x_assign rfl (hS.get 0 rfl)) rfl) ?_
      rintro vw1008 w1008 ⟨hb, he⟩
      have hBw1008_w := below_step hBw1007_w hb
      have hBw1008_wL1 := below_step hBw1007_wL1 hb
      have hBw1008_w1007 := below_step hBw1007_w1007 hb
      have hBw1008_w1008 := Below.refl w1008.heap.size w1008
      obtain rfl : vw1008 = .slice AL1_6 y1_6.length y1_6.length := he
      replace hS := ((((((((((((((hS.nil).cons (hS.get 14 rfl)).cons (hS.get 12 rfl)).cons (hS.get 11 rfl)).cons (hS.get 10 rfl)).cons (hS.get 9 rfl)).cons (hS.get 8 rfl)).cons (hS.get 7 rfl)).cons (hS.get 6 rfl)).cons (hS.get 5 rfl)).cons (hS.get 4 rfl)).cons (hS.get 3 rfl)).cons (hS.get 2 rfl)).cons (hS.get 1 rfl)).cons (hS.get 0 rfl)
      refine hS.next (v := .slice AL1_6 y1_6.length y1_6.length) (d := 6) rfl (by decide) (by rfl) ?_
      clear hS
      intro at1009 hS
      refine wpList_nil ?_
      refine hK1005 _ _ ?_
      (try clear hK1005 K1005)
      refine reg_seq_tail 2 (N := 88) (bs := [(6, .slice AL1_6 y1_6.length y1_6.length), (33, .slice AL1_6 y1_6.length y1_6.length), (32, .int .i64 x1_5), (31, .int .i64 (rd y1_0 x1_7)), (29, .int .i64 x1_7), (28, .slice AL1_0 y1_0.length CL1_0), (27, .slice AL1_6 y1_6.length CL1_6), (24, .bool (decide (x1_7 < (y1_0.length : Int)))), (23, .int .i64 (y1_0.length : Int)), (22, .slice AL1_0 y1_0.length CL1_0), (21, .int .i64 x1_7), (0, .slice AL1_0 y1_0.length CL1_0), (4, .bool x1_4), (5, .int .i64 x1_5), (7, .int .i64 x1_7)]) (I := fun x => Below w.heap.size w x ∧ Below wL1.heap.size wL1 x ∧ Below w1008.heap.size w1008 x) (ps := [IsV (.int .i64 x1_7), IsV (.int .i64 (wrap64 (x1_7 + 1)))]) (by kernel_rfl) ?_ ?_ rfl hS ⟨hBw1008_w, hBw1008_wL1, hBw1008_w1008⟩ ?_ ?_
      · exact fun x y hI hb => ⟨below_step hI.1 hb, below_step hI.2.1 hb, below_step hI.2.2 hb⟩
      · exact .v (.v (.nil))
      · refine .on rfl (fun a w hS hI hp => does_val (x_move rfl (hS.get 14 rfl)) rfl) ?_
        refine .on rfl (fun a w hS hI hp => does_val (x_bin rfl ((hp.get 0 (by rfl) rfl rfl)) (rfl) (b_add _ _ _ _ _)) rfl) ?_
        exact .nil
      clear hS
      intro at1010 w1011 hS hI hp
      have hBw1011_w := hI.1
      have hBw1011_wL1 := hI.2.1
      have hBw1011_w1008 := hI.2.2
      have hv25 : sl _ 25 = .int .i64 x1_7 := hp 0 (by decide)
      have hv26 : sl _ 26 = .int .i64 (wrap64 (x1_7 + 1)) := hp 1 (by decide)
      have hBw1011_w1011 := Below.refl w1011.heap.size w1011
      have hS := hS.cons hv25
      have hS := hS.cons hv26
      clear hp hI hv25 hv26
      show wpList _ _ _ [_] _ _
      refine list_step rfl (R := fun v w' => Below _ _ w' ∧ (IsV (.int .i64 (wrap64 (x1_7 + 1)))) v w') (does_val (x_assign rfl (hS.get 0 rfl)) rfl) ?_
      rintro vw1012 w1012 ⟨hb, he⟩
      have hBw1012_w := below_step hBw1011_w hb
      have hBw1012_wL1 := below_step hBw1011_wL1 hb
      have hBw1012_w1011 := below_step hBw1011_w1011 hb
      have hBw1012_w1012 := Below.refl w1012.heap.size w1012
      obtain rfl : vw1012 = .int .i64 (wrap64 (x1_7 + 1)) := he
      replace hS := ((((((((((((((((hS.nil).cons (hS.get 15 rfl)).cons (hS.get 14 rfl)).cons (hS.get 13 rfl)).cons (hS.get 12 rfl)).cons (hS.get 11 rfl)).cons (hS.get 10 rfl)).cons (hS.get 9 rfl)).cons (hS.get 8 rfl)).cons (hS.get 7 rfl)).cons (hS.get 6 rfl)).cons (hS.get 5 rfl)).cons (hS.get 4 rfl)).cons (hS.get 3 rfl)).cons (hS.get 2 rfl)).cons (hS.get 1 rfl)).cons (hS.get 0 rfl)
      refine hS.next (v := .int .i64 (wrap64 (x1_7 + 1))) (d := 7) rfl (by decide) (by rfl) ?_
      clear hS
      intro at1013 hS
      refine wpList_nil ?_
      replace hS := (((((hS.nil).cons (hS.get 0 rfl)).cons (hS.get 3 rfl)).cons (hS.get 16 rfl)).cons (hS.get 15 rfl)).cons (hS.get 14 rfl)
      (try simp only [Exit.then, Exit.inBlock])
      exact ⟨n1, Nat.lt_succ_self _, y1_0, AL1_0, CL1_0, x1_4, x1_5, y1_6, AL1_6, y1_6.length, wrap64 (x1_7 + 1), H, hS, hBw1012_w, hr1_0, (Kd.C_below hcL1_0 hBw1012_wL1), (Nat.le_refl _), (Kd.C_below hcL1_6 hBw1012_wL1)⟩
    rw [if_pos c5] at H
    obtain ⟨t1006, At1006, H⟩ := Option.bind_eq_some_iff.mp H
    have hBwL1_wL1 := Below.refl wL1.heap.size wL1
    refine wp_seq_k (fun K1001 hK1001 => ?_)
    refine wp_seq_k (fun K1002 hK1002 => ?_)
    refine reg_seq (N := 88) (bs := [(0, .slice AL1_0 y1_0.length CL1_0), (4, .bool x1_4), (5, .int .i64 x1_5), (6, .slice AL1_6 y1_6.length CL1_6), (7, .int .i64 x1_7)]) (I := fun x => Below w.heap.size w x ∧ Below wL1.heap.size wL1 x) (ps := [IsV (.int .i64 x1_7), IsV (.slice AL1_0 y1_0.length CL1_0), IsV (.int .i64 (y1_0.length : Int)), IsV (.bool (decide (x1_7 < (y1_0.length : Int))))]) (by kernel_rfl) ?_ ?_ rfl hS ⟨hBwL1_w, hBwL1_wL1⟩ ?_ ?_
    · exact fun x y hI hb => ⟨below_step hI.1 hb, below_step hI.2 hb⟩
    · exact .v (.v (.v (.v (.nil))))
    · refine .on rfl (fun a w hS hI hp => does_val (x_move rfl (hS.get 4 rfl)) rfl) ?_
      refine .on rfl (fun a w hS hI hp => does_val (x_move rfl (hS.get 0 rfl)) rfl) ?_
      refine .on rfl (fun a w hS hI hp => does_val (x_len (e := 3) rfl (by kernel_rfl) ((hp.get 1 (by rfl) rfl rfl))) rfl) ?_
      refine .on rfl (fun a w hS hI hp => does_val (x_bin rfl ((hp.get 0 (by rfl) rfl rfl)) ((hp.get 2 (by rfl) rfl rfl)) (b_lss _ _ _ _ _ _)) rfl) ?_
      exact .nil
    clear hS
    intro at1003 w1004 hS hI hp
    have hBw1004_w := hI.1
    have hBw1004_wL1 := hI.2
    have hv21 : sl _ 21 = .int .i64 x1_7 := hp 0 (by decide)
    have hv22 : sl _ 22 = .slice AL1_0 y1_0.length CL1_0 := hp 1 (by decide)
    have hv23 : sl _ 23 = .int .i64 (y1_0.length : Int) := hp 2 (by decide)
    have hv24 : sl _ 24 = .bool (decide (x1_7 < (y1_0.length : Int))) := hp 3 (by decide)
    have hBw1004_w1004 := Below.refl w1004.heap.size w1004
    have hS := hS.cons hv21
    have hS := hS.cons hv22
    have hS := hS.cons hv23
    have hS := hS.cons hv24
    clear hp hI hv21 hv22 hv23 hv24
    refine hK1002 _ _ ?_
    (try clear hK1002 K1002)
    refine wp_cond_true ((hS.get 0 rfl).trans (bT (decide_eq_true c3))) ?_
    refine wp_skip ?_
    refine hK1001 _ _ ?_
    (try clear hK1001 K1001)
    refine wp_seq_k (fun K1005 hK1005 => ?_)
    refine wp_block ?_
    refine reg_seq_tail 7 (N := 88) (bs := [(24, .bool (decide (x1_7 < (y1_0.length : Int)))), (23, .int .i64 (y1_0.length : Int)), (22, .slice AL1_0 y1_0.length CL1_0), (21, .int .i64 x1_7), (0, .slice AL1_0 y1_0.length CL1_0), (4, .bool x1_4), (5, .int .i64 x1_5), (6, .slice AL1_6 y1_6.length CL1_6), (7, .int .i64 x1_7)]) (I := fun x => Below w.heap.size w x ∧ Below wL1.heap.size wL1 x ∧ Below w1004.heap.size w1004 x) (ps := [IsV (.slice AL1_6 y1_6.length CL1_6), IsV (.slice AL1_0 y1_0.length CL1_0), IsV (.int .i64 x1_7), IsA (.int .i64 (rd y1_0 x1_7)), IsV (.int .i64 (rd y1_0 x1_7)), IsV (.int .i64 x1_5), IsR (Kd.int .u8) 5 w1004.heap.size t1006]) (by kernel_rfl) ?_ ?_ rfl hS ⟨hBw1004_w, hBw1004_wL1, hBw1004_w1004⟩ ?_ ?_
    · exact fun x y hI hb => ⟨below_step hI.1 hb, below_step hI.2.1 hb, below_step hI.2.2 hb⟩
    · exact .v (.v (.v (.cons (Stays.a _) (.v (.v (.cons (Stays.r _ _ _ _) (.nil)))))))
    · refine .on rfl (fun a w hS hI hp => does_val (x_move rfl (hS.get 7 rfl)) rfl) ?_
      refine .on rfl (fun a w hS hI hp => does_val (x_move rfl (hS.get 4 rfl)) rfl) ?_
      refine .on rfl (fun a w hS hI hp => does_val (x_move rfl (hS.get 8 rfl)) rfl) ?_
      refine .on rfl (fun a w hS hI hp => does_index (e := 3) (xs := y1_0) rfl ((hp.get 1 (by rfl) rfl rfl)) ((hp.get 2 (by rfl) rfl rfl)) (by kernel_rfl) (by kernel_rfl) c4 c3 c3 ((Kd.C_below hcL1_0 hI.2.1))) ?_
      refine .on rfl (fun a w hS hI hp => ((hp.get 3 (by rfl) rfl rfl)).elim fun _ h_ => does_val (x_load1 (d := .int .i64) rfl h_.1 (by kernel_rfl) rfl h_.2.2) rfl) ?_
      refine .on rfl (fun a w hS hI hp => does_val (x_move rfl (hS.get 6 rfl)) rfl) ?_
      refine .on rfl (fun a w hS hI hp => does_call (by kernel_rfl) (ar3 ((hp.get 0 (by rfl) rfl rfl)) ((hp.get 4 (by rfl) rfl rfl)) ((hp.get 5 (by rfl) rfl rfl))) ((octets_Put.calls _ _ y1_6 (rd y1_0 x1_7) x1_5 t1006 _ (Kd.C_below hcL1_6 hI.2.1) hr1_6 At1006).mono fun _ _ h => h.elim fun v0 h => ⟨v0, h.1, h.2.2, Kd.R_lower h.2.1 hI.2.2.size⟩)) ?_
      exact .nil
    clear hS
    intro at1007 w1008 hS hI hp
    have hBw1008_w := hI.1
    have hBw1008_wL1 := hI.2.1
    have hBw1008_w1004 := hI.2.2
    have hv27 : sl _ 27 = .slice AL1_6 y1_6.length CL1_6 := hp 0 (by decide)
    have hv28 : sl _ 28 = .slice AL1_0 y1_0.length CL1_0 := hp 1 (by decide)
    have hv29 : sl _ 29 = .int .i64 x1_7 := hp 2 (by decide)
    have hv31 : sl _ 31 = .int .i64 (rd y1_0 x1_7) := hp 4 (by decide)
    have hv32 : sl _ 32 = .int .i64 x1_5 := hp 5 (by decide)
    obtain ⟨A1009, C1009, hv33, hl1009, hc1009⟩ := Kd.R_reads (show Kd.R (Kd.int .u8) 5 w1008 w1004.heap.size (fun _ => True) (sl _ 33) t1006 from hp 6 (by decide))
    have ho1009 : Kd.R (Kd.int .u8) 5 w1008 w1004.heap.size (fun _ => True) (.slice A1009 t1006.length C1009) t1006 := hv33 ▸ (hp 6 (by decide))
    have hBw1008_w1008 := Below.refl w1008.heap.size w1008
    have hS := hS.cons hv27
    have hS := hS.cons hv28
    have hS := hS.cons hv29
    have hS := hS.cons hv31
    have hS := hS.cons hv32
    have hS := hS.cons hv33
    clear hp hI hv27 hv28 hv29 hv31 hv32 hv33
    show wpList _ _ _ [_] _ _
    refine list_step rfl (R := fun v w' => Below _ _ w' ∧ (IsV (.slice A1009 t1006.length C1009)) v w') (does_val (x_assign rfl (hS.get 0 rfl)) rfl) ?_
    rintro vw1010 w1010 ⟨hb, he⟩
    have hBw1010_w := below_step hBw1008_w hb
    have hBw1010_wL1 := below_step hBw1008_wL1 hb
    have hBw1010_w1004 := below_step hBw1008_w1004 hb
    have hBw1010_w1008 := below_step hBw1008_w1008 hb
    have hBw1010_w1010 := Below.refl w1010.heap.size w1010
    obtain rfl : vw1010 = .slice A1009 t1006.length C1009 := he
    replace hS := ((((((((((((((hS.nil).cons (hS.get 14 rfl)).cons (hS.get 12 rfl)).cons (hS.get 11 rfl)).cons (hS.get 10 rfl)).cons (hS.get 9 rfl)).cons (hS.get 8 rfl)).cons (hS.get 7 rfl)).cons (hS.get 6 rfl)).cons (hS.get 5 rfl)).cons (hS.get 4 rfl)).cons (hS.get 3 rfl)).cons (hS.get 2 rfl)).cons (hS.get 1 rfl)).cons (hS.get 0 rfl)
    refine hS.next (v := .slice A1009 t1006.length C1009) (d := 6) rfl (by decide) (by rfl) ?_
    clear hS
    intro at1011 hS
    refine wpList_nil ?_
    refine hK1005 _ _ ?_
    (try clear hK1005 K1005)
    refine reg_seq_tail 2 (N := 88) (bs := [(6, .slice A1009 t1006.length C1009), (33, .slice A1009 t1006.length C1009), (32, .int .i64 x1_5), (31, .int .i64 (rd y1_0 x1_7)), (29, .int .i64 x1_7), (28, .slice AL1_0 y1_0.length CL1_0), (27, .slice AL1_6 y1_6.length CL1_6), (24, .bool (decide (x1_7 < (y1_0.length : Int)))), (23, .int .i64 (y1_0.length : Int)), (22, .slice AL1_0 y1_0.length CL1_0), (21, .int .i64 x1_7), (0, .slice AL1_0 y1_0.length CL1_0), (4, .bool x1_4), (5, .int .i64 x1_5), (7, .int .i64 x1_7)]) (I := fun x => Below w.heap.size w x ∧ Below wL1.heap.size wL1 x ∧ Below w1004.heap.size w1004 x ∧ Below w1008.heap.size w1008 x ∧ Below w1010.heap.size w1010 x) (ps := [IsV (.int .i64 x1_7), IsV (.int .i64 (wrap64 (x1_7 + 1)))]) (by kernel_rfl) ?_ ?_ rfl hS ⟨hBw1010_w, hBw1010_wL1, hBw1010_w1004, hBw1010_w1008, hBw1010_w1010⟩ ?_ ?_
    · exact fun x y hI hb => ⟨below_step hI.1 hb, below_step hI.2.1 hb, below_step hI.2.2.1 hb, below_step hI.2.2.2.1 hb, below_step hI.2.2.2.2 hb⟩
    · exact .v (.v (.nil))
    · refine .on rfl (fun a w hS hI hp => does_val (x_move rfl (hS.get 14 rfl)) rfl) ?_
      refine .on rfl (fun a w hS hI hp => does_val (x_bin rfl ((hp.get 0 (by rfl) rfl rfl)) (rfl) (b_add _ _ _ _ _)) rfl) ?_
      exact .nil
    clear hS
    intro at1012 w1013 hS hI hp
    have hBw1013_w := hI.1
    have hBw1013_wL1 := hI.2.1
    have hBw1013_w1004 := hI.2.2.1
    have hBw1013_w1008 := hI.2.2.2.1
    have hBw1013_w1010 := hI.2.2.2.2
    have hv25 : sl _ 25 = .int .i64 x1_7 := hp 0 (by decide)
    have hv26 : sl _ 26 = .int .i64 (wrap64 (x1_7 + 1)) := hp 1 (by decide)
    have hBw1013_w1013 := Below.refl w1013.heap.size w1013
    have hS := hS.cons hv25
    have hS := hS.cons hv26
    clear hp hI hv25 hv26
    show wpList _ _ _ [_] _ _
    refine list_step rfl (R := fun v w' => Below _ _ w' ∧ (IsV (.int .i64 (wrap64 (x1_7 + 1)))) v w') (does_val (x_assign rfl (hS.get 0 rfl)) rfl) ?_
    rintro vw1014 w1014 ⟨hb, he⟩
    have hBw1014_w := below_step hBw1013_w hb
    have hBw1014_wL1 := below_step hBw1013_wL1 hb
    have hBw1014_w1004 := below_step hBw1013_w1004 hb
    have hBw1014_w1008 := below_step hBw1013_w1008 hb
    have hBw1014_w1013 := below_step hBw1013_w1013 hb
    have hBw1014_w1014 := Below.refl w1014.heap.size w1014
    obtain rfl : vw1014 = .int .i64 (wrap64 (x1_7 + 1)) := he
    replace hS := ((((((((((((((((hS.nil).cons (hS.get 15 rfl)).cons (hS.get 14 rfl)).cons (hS.get 13 rfl)).cons (hS.get 12 rfl)).cons (hS.get 11 rfl)).cons (hS.get 10 rfl)).cons (hS.get 9 rfl)).cons (hS.get 8 rfl)).cons (hS.get 7 rfl)).cons (hS.get 6 rfl)).cons (hS.get 5 rfl)).cons (hS.get 4 rfl)).cons (hS.get 3 rfl)).cons (hS.get 2 rfl)).cons (hS.get 1 rfl)).cons (hS.get 0 rfl)
    refine hS.next (v := .int .i64 (wrap64 (x1_7 + 1))) (d := 7) rfl (by decide) (by rfl) ?_
    clear hS
    intro at1015 hS
    refine wpList_nil ?_
    replace hS := (((((hS.nil).cons (hS.get 0 rfl)).cons (hS.get 3 rfl)).cons (hS.get 16 rfl)).cons (hS.get 15 rfl)).cons (hS.get 14 rfl)
    (try simp only [Exit.then, Exit.inBlock])
    exact ⟨n1, Nat.lt_succ_self _, y1_0, AL1_0, CL1_0, x1_4, x1_5, t1006, A1009, C1009, wrap64 (x1_7 + 1), H, hS, hBw1014_w, hr1_0, (Kd.C_below hcL1_0 hBw1014_wL1), hl1009, (Kd.C_below hc1009 hBw1014_w1008)⟩
  rw [if_neg c3] at H
  by_cases c4 : (y1_6.length : Int) = (wrap64 (x1_5 * (y1_0.length : Int)))
  rotate_left
  · rw [if_neg c4] at H
    exact absurd H (by simp)
  rw [if_pos c4] at H
  have hBwL1_wL1 := Below.refl wL1.heap.size wL1
  refine wp_seq_k (fun K1001 hK1001 => ?_)
  refine wp_seq_k (fun K1002 hK1002 => ?_)
  refine reg_seq (N := 88) (bs := [(0, .slice AL1_0 y1_0.length CL1_0), (4, .bool x1_4), (5, .int .i64 x1_5), (6, .slice AL1_6 y1_6.length CL1_6), (7, .int .i64 x1_7)]) (I := fun x => Below w.heap.size w x ∧ Below wL1.heap.size wL1 x) (ps := [IsV (.int .i64 x1_7), IsV (.slice AL1_0 y1_0.length CL1_0), IsV (.int .i64 (y1_0.length : Int)), IsV (.bool (decide (x1_7 < (y1_0.length : Int))))]) (by kernel_rfl) ?_ ?_ rfl hS ⟨hBwL1_w, hBwL1_wL1⟩ ?_ ?_
  · exact fun x y hI hb => ⟨below_step hI.1 hb, below_step hI.2 hb⟩
  · exact .v (.v (.v (.v (.nil))))
  · refine .on rfl (fun a w hS hI hp => does_val (x_move rfl (hS.get 4 rfl)) rfl) ?_
    refine .on rfl (fun a w hS hI hp => does_val (x_move rfl (hS.get 0 rfl)) rfl) ?_
    refine .on rfl (fun a w hS hI hp => does_val (x_len (e := 3) rfl (by kernel_rfl) ((hp.get 1 (by rfl) rfl rfl))) rfl) ?_
    refine .on rfl (fun a w hS hI hp => does_val (x_bin rfl ((hp.get 0 (by rfl) rfl rfl)) ((hp.get 2 (by rfl) rfl rfl)) (b_lss _ _ _ _ _ _)) rfl) ?_
    exact .nil
  clear hS
  intro at1003 w1004 hS hI hp
  have hBw1004_w := hI.1
  have hBw1004_wL1 := hI.2
  have hv21 : sl _ 21 = .int .i64 x1_7 := hp 0 (by decide)
  have hv22 : sl _ 22 = .slice AL1_0 y1_0.length CL1_0 := hp 1 (by decide)
  have hv23 : sl _ 23 = .int .i64 (y1_0.length : Int) := hp 2 (by decide)
  have hv24 : sl _ 24 = .bool (decide (x1_7 < (y1_0.length : Int))) := hp 3 (by decide)
  have hBw1004_w1004 := Below.refl w1004.heap.size w1004
  have hS := hS.cons hv21
  have hS := hS.cons hv22
  have hS := hS.cons hv23
  have hS := hS.cons hv24
  clear hp hI hv21 hv22 hv23 hv24
  refine hK1002 _ _ ?_
  (try clear hK1002 K1002)
  refine wp_cond_false ((hS.get 0 rfl).trans (bF (decide_eq_false c3))) ?_
  refine wp_exit ?_
  (try simp only [Exit.then, Exit.inBlock, reduceIte])
  refine hK19 _ _ ?_
  (try clear hK19 K19)
  refine wp_seq_k (fun K1005 hK1005 => ?_)
  refine wp_seq_k (fun K1006 hK1006 => ?_)
  refine reg_seq (N := 88) (bs := [(24, .bool (decide (x1_7 < (y1_0.length : Int)))), (23, .int .i64 (y1_0.length : Int)), (22, .slice AL1_0 y1_0.length CL1_0), (21, .int .i64 x1_7), (0, .slice AL1_0 y1_0.length CL1_0), (4, .bool x1_4), (5, .int .i64 x1_5), (6, .slice AL1_6 y1_6.length CL1_6), (7, .int .i64 x1_7)]) (I := fun x => Below w.heap.size w x ∧ Below wL1.heap.size wL1 x ∧ Below w1004.heap.size w1004 x) (ps := [IsV (.slice AL1_6 y1_6.length CL1_6), IsV (.int .i64 (y1_6.length : Int)), IsV (.int .i64 x1_5), IsV (.slice AL1_0 y1_0.length CL1_0), IsV (.int .i64 (y1_0.length : Int)), IsV (.int .i64 (wrap64 (x1_5 * (y1_0.length : Int)))), IsV (.bool (!decide ((y1_6.length : Int) = (wrap64 (x1_5 * (y1_0.length : Int))))))]) (by kernel_rfl) ?_ ?_ rfl hS ⟨hBw1004_w, hBw1004_wL1, hBw1004_w1004⟩ ?_ ?_
  · exact fun x y hI hb => ⟨below_step hI.1 hb, below_step hI.2.1 hb, below_step hI.2.2 hb⟩
  · exact .v (.v (.v (.v (.v (.v (.v (.nil)))))))
  · refine .on rfl (fun a w hS hI hp => does_val (x_move rfl (hS.get 7 rfl)) rfl) ?_
    refine .on rfl (fun a w hS hI hp => does_val (x_len (e := 5) rfl (by kernel_rfl) ((hp.get 0 (by rfl) rfl rfl))) rfl) ?_
    refine .on rfl (fun a w hS hI hp => does_val (x_move rfl (hS.get 6 rfl)) rfl) ?_
    refine .on rfl (fun a w hS hI hp => does_val (x_move rfl (hS.get 4 rfl)) rfl) ?_
    refine .on rfl (fun a w hS hI hp => does_val (x_len (e := 3) rfl (by kernel_rfl) ((hp.get 3 (by rfl) rfl rfl))) rfl) ?_
    refine .on rfl (fun a w hS hI hp => does_val (x_bin rfl ((hp.get 2 (by rfl) rfl rfl)) ((hp.get 4 (by rfl) rfl rfl)) (b_mul _ _ _ _ _)) rfl) ?_
    refine .on rfl (fun a w hS hI hp => does_val (x_bin rfl ((hp.get 1 (by rfl) rfl rfl)) ((hp.get 5 (by rfl) rfl rfl)) (b_neq _ _ _ _ _ _)) rfl) ?_
    exact .nil
  clear hS
  intro at1007 w1008 hS hI hp
  have hBw1008_w := hI.1
  have hBw1008_wL1 := hI.2.1
  have hBw1008_w1004 := hI.2.2
  replace hS := (((((hS.nil).cons (hS.get 7 rfl)).cons (hS.get 6 rfl)).cons (hS.get 5 rfl)).cons (hS.get 4 rfl)).cons (hS.get 0 rfl)
  have hv40 : sl _ 40 = .bool (!decide ((y1_6.length : Int) = (wrap64 (x1_5 * (y1_0.length : Int))))) := hp 6 (by decide)
  have hBw1008_w1008 := Below.refl w1008.heap.size w1008
  have hS := hS.cons hv40
  clear hp hI hv40
  refine hK1006 _ _ ?_
  (try clear hK1006 K1006)
  refine wp_cond_false ((hS.get 0 rfl).trans (bF (congrArg (!·) (decide_eq_true c4)))) ?_
  refine wp_skip ?_
  refine hK1005 _ _ ?_
  (try clear hK1005 K1005)
  refine wp_seq_k (fun K1009 hK1009 => ?_)
  refine wp_seq_k (fun K1010 hK1010 => ?_)
  refine reg_seq (N := 88) (bs := [(40, .bool (!decide ((y1_6.length : Int) = (wrap64 (x1_5 * (y1_0.length : Int)))))), (24, .bool (decide (x1_7 < (y1_0.length : Int)))), (0, .slice AL1_0 y1_0.length CL1_0), (4, .bool x1_4), (5, .int .i64 x1_5), (6, .slice AL1_6 y1_6.length CL1_6)]) (I := fun x => Below w.heap.size w x ∧ Below wL1.heap.size wL1 x ∧ Below w1008.heap.size w1008 x) (ps := [IsV (.int .i64 0)]) (by kernel_rfl) ?_ ?_ rfl hS ⟨hBw1008_w, hBw1008_wL1, hBw1008_w1008⟩ ?_ ?_
  · exact fun x y hI hb => ⟨below_step hI.1 hb, below_step hI.2.1 hb, below_step hI.2.2 hb⟩
  · exact .v (.nil)
  · refine .on rfl (fun a w hS hI hp => does_val (x_assign rfl (rfl)) rfl) ?_
    exact .nil
  clear hS
  intro at1011 w1012 hS hI hp
  have hBw1012_w := hI.1
  have hBw1012_wL1 := hI.2.1
  have hBw1012_w1008 := hI.2.2
  have hv8 : sl _ 8 = .int .i64 0 := hp 0 (by decide)
  have hBw1012_w1012 := Below.refl w1012.heap.size w1012
  have hS := hS.cons hv8
  clear hp hI hv8
  refine hK1010 _ _ ?_
  (try clear hK1010 K1010)
  refine wp_block ?_
  replace hS := (((((hS.nil).cons (hS.get 0 rfl)).cons (hS.get 6 rfl)).cons (hS.get 5 rfl)).cons (hS.get 4 rfl)).cons (hS.get 3 rfl)
  refine wp_loop_ghost (fun n_ a_ wL2 => ∃ (y2_0 : List Int) (AL2_0 : Option Addr) (CL2_0 : Nat) (x2_4 : Bool) (x2_5 : Int) (y2_6 : List Int) (AL2_6 : Option Addr) (CL2_6 : Nat) (x2_8 : Int), carillonlaw01_OctetsMany.l2 k n_ y2_0 x2_4 x2_5 y2_6 x2_8 = some true ∧ St 88 [(0, .slice AL2_0 y2_0.length CL2_0), (4, .bool x2_4), (5, .int .i64 x2_5), (6, .slice AL2_6 y2_6.length CL2_6), (8, .int .i64 x2_8)] a_ ∧ Below w.heap.size w wL2 ∧ y2_0.length ≤ CL2_0 ∧ Kd.C (Kd.int .i64) wL2 AL2_0 y2_0.length y2_0 ∧ y2_6.length ≤ CL2_6 ∧ Kd.C (Kd.int .u8) wL2 AL2_6 y2_6.length y2_6) k ⟨y1_0, AL1_0, CL1_0, x1_4, x1_5, y1_6, AL1_6, CL1_6, 0, H, hS, hBw1012_w, hr1_0, (Kd.C_below hcL1_0 hBw1012_wL1), hr1_6, (Kd.C_below hcL1_6 hBw1012_wL1)⟩ ?_
  clear H hS
  rintro n2 aL2 wL2 ⟨y2_0, AL2_0, CL2_0, x2_4, x2_5, y2_6, AL2_6, CL2_6, x2_8, H, hS, hBwL2_w, hr2_0, hcL2_0, hr2_6, hcL2_6⟩
  rcases n2 with _ | n2
  · exact absurd H (by simp [carillonlaw01_OctetsMany.l2])
  rw [carillonlaw01_OctetsMany.l2] at H
  (try dsimp only at H)
  by_cases c5 : x2_8 < (y2_0.length : Int)
  rotate_left
  · rw [if_neg c5] at H
    obtain ⟨t2006, At2006, H⟩ := Option.bind_eq_some_iff.mp H
    obtain ⟨t2006_1, t2006_2⟩ := t2006
    (try dsimp only at H)
    by_cases c6 : t2006_2 = true
    · rw [if_pos c6] at H
      exact absurd H (by simp)
    rw [if_neg c6] at H
    obtain ⟨t2010, At2010, H⟩ := Option.bind_eq_some_iff.mp H
    have hret := Option.some.inj H
    clear H
    have hBwL2_wL2 := Below.refl wL2.heap.size wL2
    refine wp_seq_k (fun K2001 hK2001 => ?_)
    refine wp_seq_k (fun K2002 hK2002 => ?_)
    refine reg_seq (N := 88) (bs := [(0, .slice AL2_0 y2_0.length CL2_0), (4, .bool x2_4), (5, .int .i64 x2_5), (6, .slice AL2_6 y2_6.length CL2_6), (8, .int .i64 x2_8)]) (I := fun x => Below w.heap.size w x ∧ Below wL2.heap.size wL2 x) (ps := [IsV (.int .i64 x2_8), IsV (.slice AL2_0 y2_0.length CL2_0), IsV (.int .i64 (y2_0.length : Int)), IsV (.bool (decide (x2_8 < (y2_0.length : Int))))]) (by kernel_rfl) ?_ ?_ rfl hS ⟨hBwL2_w, hBwL2_wL2⟩ ?_ ?_
    · exact fun x y hI hb => ⟨below_step hI.1 hb, below_step hI.2 hb⟩
    · exact .v (.v (.v (.v (.nil))))
    · refine .on rfl (fun a w hS hI hp => does_val (x_move rfl (hS.get 4 rfl)) rfl) ?_
      refine .on rfl (fun a w hS hI hp => does_val (x_move rfl (hS.get 0 rfl)) rfl) ?_
      refine .on rfl (fun a w hS hI hp => does_val (x_len (e := 3) rfl (by kernel_rfl) ((hp.get 1 (by rfl) rfl rfl))) rfl) ?_
      refine .on rfl (fun a w hS hI hp => does_val (x_bin rfl ((hp.get 0 (by rfl) rfl rfl)) ((hp.get 2 (by rfl) rfl rfl)) (b_lss _ _ _ _ _ _)) rfl) ?_
      exact .nil
    clear hS
    intro at2003 w2004 hS hI hp
    have hBw2004_w := hI.1
    have hBw2004_wL2 := hI.2
    have hv41 : sl _ 41 = .int .i64 x2_8 := hp 0 (by decide)
    have hv42 : sl _ 42 = .slice AL2_0 y2_0.length CL2_0 := hp 1 (by decide)
    have hv43 : sl _ 43 = .int .i64 (y2_0.length : Int) := hp 2 (by decide)
    have hv44 : sl _ 44 = .bool (decide (x2_8 < (y2_0.length : Int))) := hp 3 (by decide)
    have hBw2004_w2004 := Below.refl w2004.heap.size w2004
    have hS := hS.cons hv41
    have hS := hS.cons hv42
    have hS := hS.cons hv43
    have hS := hS.cons hv44
    clear hp hI hv41 hv42 hv43 hv44
    refine hK2002 _ _ ?_
    (try clear hK2002 K2002)
    refine wp_cond_false ((hS.get 0 rfl).trans (bF (decide_eq_false c5))) ?_
    refine wp_exit ?_
    (try simp only [Exit.then, Exit.inBlock, reduceIte])
    refine hK1009 _ _ ?_
    (try clear hK1009 K1009)
    refine wp_seq_k (fun K2005 hK2005 => ?_)
    refine reg_seq (N := 88) (bs := [(44, .bool (decide (x2_8 < (y2_0.length : Int)))), (43, .int .i64 (y2_0.length : Int)), (42, .slice AL2_0 y2_0.length CL2_0), (41, .int .i64 x2_8), (0, .slice AL2_0 y2_0.length CL2_0), (4, .bool x2_4), (5, .int .i64 x2_5), (6, .slice AL2_6 y2_6.length CL2_6), (8, .int .i64 x2_8)]) (I := fun x => Below w.heap.size w x ∧ Below wL2.heap.size wL2 x ∧ Below w2004.heap.size w2004 x) (ps := [IsV (.slice AL2_6 y2_6.length CL2_6), IsV (.slice AL2_6 y2_6.length CL2_6), IsV (.int .i64 (y2_6.length : Int)), IsV (.int .i64 x2_5), IsV (.int .i64 (wrap64 ((y2_6.length : Int) - x2_5))), IsV (.int .i64 (wrap64 ((wrap64 ((y2_6.length : Int) - x2_5)) + 1))), IsV (.int .i64 x2_5), IsV (.tuple #[.int .i64 t2006_1, .bool t2006_2]), IsV (.tuple #[.int .i64 t2006_1, .bool t2006_2]), IsV (.int .i64 t2006_1), IsV (.bool t2006_2), IsV (.int .i64 t2006_1), IsV (.bool t2006_2)]) (by kernel_rfl) ?_ ?_ rfl hS ⟨hBw2004_w, hBw2004_wL2, hBw2004_w2004⟩ ?_ ?_
    · exact fun x y hI hb => ⟨below_step hI.1 hb, below_step hI.2.1 hb, below_step hI.2.2 hb⟩
    · exact .v (.v (.v (.v (.v (.v (.v (.v (.v (.v (.v (.v (.v (.nil)))))))))))))
    · refine .on rfl (fun a w hS hI hp => does_val (x_move rfl (hS.get 7 rfl)) rfl) ?_
      refine .on rfl (fun a w hS hI hp => does_val (x_move rfl (hS.get 7 rfl)) rfl) ?_
      refine .on rfl (fun a w hS hI hp => does_val (x_len (e := 5) rfl (by kernel_rfl) ((hp.get 1 (by rfl) rfl rfl))) rfl) ?_
      refine .on rfl (fun a w hS hI hp => does_val (x_move rfl (hS.get 6 rfl)) rfl) ?_
      refine .on rfl (fun a w hS hI hp => does_val (x_bin rfl ((hp.get 2 (by rfl) rfl rfl)) ((hp.get 3 (by rfl) rfl rfl)) (b_sub _ _ _ _ _)) rfl) ?_
      refine .on rfl (fun a w hS hI hp => does_val (x_bin rfl ((hp.get 4 (by rfl) rfl rfl)) (rfl) (b_add _ _ _ _ _)) rfl) ?_
      refine .on rfl (fun a w hS hI hp => does_val (x_move rfl (hS.get 6 rfl)) rfl) ?_
      refine .on rfl (fun a w hS hI hp => does_call (by kernel_rfl) (ar3 ((hp.get 0 (by rfl) rfl rfl)) ((hp.get 5 (by rfl) rfl rfl)) ((hp.get 6 (by rfl) rfl rfl))) ((octets_Get.calls k _ _ y2_6 (wrap64 ((wrap64 ((y2_6.length : Int) - x2_5)) + 1)) x2_5 t2006_1 t2006_2 _ (Kd.C_below hcL2_6 hI.2.1) hr2_6 At2006).mono fun _ _ h => ⟨_, h.1, h.2.below, rfl⟩)) ?_
      refine .on rfl (fun a w hS hI hp => does_val (x_move rfl ((hp.get 7 (by rfl) rfl rfl))) rfl) ?_
      refine .on rfl (fun a w hS hI hp => does_val (x_extract rfl ((hp.get 8 (by rfl) rfl rfl)) rfl) rfl) ?_
      refine .on rfl (fun a w hS hI hp => does_val (x_extract rfl ((hp.get 8 (by rfl) rfl rfl)) rfl) rfl) ?_
      refine .on rfl (fun a w hS hI hp => does_val (x_assign rfl ((hp.get 9 (by rfl) rfl rfl))) rfl) ?_
      refine .on rfl (fun a w hS hI hp => does_val (x_assign rfl ((hp.get 10 (by rfl) rfl rfl))) rfl) ?_
      exact .nil
    clear hS
    intro at2007 w2008 hS hI hp
    have hBw2008_w := hI.1
    have hBw2008_wL2 := hI.2.1
    have hBw2008_w2004 := hI.2.2
    replace hS := ((hS.nil).cons (hS.get 5 rfl)).cons (hS.get 0 rfl)
    have hv12 : sl _ 12 = .bool t2006_2 := hp 12 (by decide)
    have hBw2008_w2008 := Below.refl w2008.heap.size w2008
    have hS := hS.cons hv12
    clear hp hI hv12
    refine hK2005 _ _ ?_
    (try clear hK2005 K2005)
    refine wp_seq_k (fun K2009 hK2009 => ?_)
    replace hS := ((hS.nil).cons (hS.get 1 rfl)).cons (hS.get 0 rfl)
    refine reg_seq (N := 88) (bs := [(12, .bool t2006_2), (44, .bool (decide (x2_8 < (y2_0.length : Int))))]) (I := fun x => Below w.heap.size w x ∧ Below w2008.heap.size w2008 x) (ps := [IsV (.bool t2006_2), IsV (.bool (!t2006_2)), IsV (.bool (!t2006_2)), IsV (.bool t2010), IsV (.bool t2010), IsV (.bool t2010)]) (by kernel_rfl) ?_ ?_ rfl hS ⟨hBw2008_w, hBw2008_w2008⟩ ?_ ?_
    · exact fun x y hI hb => ⟨below_step hI.1 hb, below_step hI.2 hb⟩
    · exact .v (.v (.v (.v (.v (.v (.nil))))))
    · refine .on rfl (fun a w hS hI hp => does_val (x_move rfl (hS.get 0 rfl)) rfl) ?_
      refine .on rfl (fun a w hS hI hp => does_val (x_not rfl ((hp.get 0 (by rfl) rfl rfl))) rfl) ?_
      refine .on rfl (fun a w hS hI hp => does_val (x_move rfl ((hp.get 1 (by rfl) rfl rfl))) rfl) ?_
      refine .of (fun a w hS hI hp => ok_y (d := 85) hS rfl rfl rfl (((hp.get 2 (by rfl) rfl rfl)).trans (bT (congrArg (!·) (Bool.eq_false_iff.2 c6)))) (does_call (by kernel_rfl) rfl ((carillonlaw01_awake.calls k  t2010 _  At2010).mono fun _ _ h => ⟨_, h.1, h.2, rfl⟩))) ?_
      refine .on rfl (fun a w hS hI hp => does_val (x_pickT rfl (((hp.get 2 (by rfl) rfl rfl)).trans (bT (congrArg (!·) (Bool.eq_false_iff.2 c6)))) ((hp.get 3 (by rfl) rfl rfl))) rfl) ?_
      refine .on rfl (fun a w hS hI hp => does_val (x_assign rfl ((hp.get 4 (by rfl) rfl rfl))) rfl) ?_
      exact .nil
    clear hS
    intro at2011 w2012 hS hI hp
    have hBw2012_w := hI.1
    have hBw2012_w2008 := hI.2
    replace hS := (hS.nil).cons (hS.get 1 rfl)
    have hv4 : sl _ 4 = .bool t2010 := hp 5 (by decide)
    have hBw2012_w2012 := Below.refl w2012.heap.size w2012
    have hS := hS.cons hv4
    clear hp hI hv4
    refine hK2009 _ _ ?_
    (try clear hK2009 K2009)
    refine wp_ret ?_
    (try simp only [Exit.then, Exit.inBlock])
    exact bodyPost_ret (v := .bool true) (by rw [results_tmp rfl]; exact congrArg (Result.ok · _) ((hS.get 0 rfl).trans (congrArg Value.bool hret))) hS.nodef ⟨rfl, hBw2012_w⟩
  rw [if_pos c5] at H
  obtain ⟨t2007, At2007, H⟩ := Option.bind_eq_some_iff.mp H
  obtain ⟨t2007_1, t2007_2⟩ := t2007
  (try dsimp only at H)
  by_cases c6 : t2007_2 = true
  rotate_left
  · rw [if_neg c6] at H
    exact absurd H (by simp)
  rw [if_pos c6] at H
  by_cases c7 : 0 ≤ x2_8
  rotate_left
  · rw [if_neg c7] at H
    exact absurd H (by simp)
  rw [if_pos c7] at H
  by_cases c8 : 0 ≤ (IntKind.u64.wrap (wrap64 (8 * x2_5)))
  rotate_left
  · rw [if_neg c8] at H
    exact absurd H (by simp)
  rw [if_pos c8] at H
  by_cases c9 : t2007_1 = (Go.bits .and .i64 (rd y2_0 x2_8) (wrap64 ((shl .i64 1 (IntKind.u64.wrap (wrap64 (8 * x2_5)))) - 1)))
  rotate_left
  · rw [if_neg c9] at H
    exact absurd H (by simp)
  rw [if_pos c9] at H
  have hBwL2_wL2 := Below.refl wL2.heap.size wL2
  refine wp_seq_k (fun K2001 hK2001 => ?_)
  refine wp_seq_k (fun K2002 hK2002 => ?_)
  refine reg_seq (N := 88) (bs := [(0, .slice AL2_0 y2_0.length CL2_0), (4, .bool x2_4), (5, .int .i64 x2_5), (6, .slice AL2_6 y2_6.length CL2_6), (8, .int .i64 x2_8)]) (I := fun x => Below w.heap.size w x ∧ Below wL2.heap.size wL2 x) (ps := [IsV (.int .i64 x2_8), IsV (.slice AL2_0 y2_0.length CL2_0), IsV (.int .i64 (y2_0.length : Int)), IsV (.bool (decide (x2_8 < (y2_0.length : Int))))]) (by kernel_rfl) ?_ ?_ rfl hS ⟨hBwL2_w, hBwL2_wL2⟩ ?_ ?_
  · exact fun x y hI hb => ⟨below_step hI.1 hb, below_step hI.2 hb⟩
  · exact .v (.v (.v (.v (.nil))))
  · refine .on rfl (fun a w hS hI hp => does_val (x_move rfl (hS.get 4 rfl)) rfl) ?_
    refine .on rfl (fun a w hS hI hp => does_val (x_move rfl (hS.get 0 rfl)) rfl) ?_
    refine .on rfl (fun a w hS hI hp => does_val (x_len (e := 3) rfl (by kernel_rfl) ((hp.get 1 (by rfl) rfl rfl))) rfl) ?_
    refine .on rfl (fun a w hS hI hp => does_val (x_bin rfl ((hp.get 0 (by rfl) rfl rfl)) ((hp.get 2 (by rfl) rfl rfl)) (b_lss _ _ _ _ _ _)) rfl) ?_
    exact .nil
  clear hS
  intro at2003 w2004 hS hI hp
  have hBw2004_w := hI.1
  have hBw2004_wL2 := hI.2
  have hv41 : sl _ 41 = .int .i64 x2_8 := hp 0 (by decide)
  have hv42 : sl _ 42 = .slice AL2_0 y2_0.length CL2_0 := hp 1 (by decide)
  have hv43 : sl _ 43 = .int .i64 (y2_0.length : Int) := hp 2 (by decide)
  have hv44 : sl _ 44 = .bool (decide (x2_8 < (y2_0.length : Int))) := hp 3 (by decide)
  have hBw2004_w2004 := Below.refl w2004.heap.size w2004
  have hS := hS.cons hv41
  have hS := hS.cons hv42
  have hS := hS.cons hv43
  have hS := hS.cons hv44
  clear hp hI hv41 hv42 hv43 hv44
  refine hK2002 _ _ ?_
  (try clear hK2002 K2002)
  refine wp_cond_true ((hS.get 0 rfl).trans (bT (decide_eq_true c5))) ?_
  refine wp_skip ?_
  refine hK2001 _ _ ?_
  (try clear hK2001 K2001)
  refine wp_seq_k (fun K2005 hK2005 => ?_)
  refine wp_block ?_
  refine wp_seq_k (fun K2006 hK2006 => ?_)
  refine reg_seq (N := 88) (bs := [(44, .bool (decide (x2_8 < (y2_0.length : Int)))), (43, .int .i64 (y2_0.length : Int)), (42, .slice AL2_0 y2_0.length CL2_0), (41, .int .i64 x2_8), (0, .slice AL2_0 y2_0.length CL2_0), (4, .bool x2_4), (5, .int .i64 x2_5), (6, .slice AL2_6 y2_6.length CL2_6), (8, .int .i64 x2_8)]) (I := fun x => Below w.heap.size w x ∧ Below wL2.heap.size wL2 x ∧ Below w2004.heap.size w2004 x) (ps := [IsV (.slice AL2_6 y2_6.length CL2_6), IsV (.int .i64 x2_5), IsV (.int .i64 x2_8), IsV (.int .i64 (wrap64 (x2_5 * x2_8))), IsV (.int .i64 x2_5), IsV (.tuple #[.int .i64 t2007_1, .bool t2007_2]), IsV (.tuple #[.int .i64 t2007_1, .bool t2007_2]), IsV (.int .i64 t2007_1), IsV (.bool t2007_2), IsV (.int .i64 t2007_1), IsV (.bool t2007_2)]) (by kernel_rfl) ?_ ?_ rfl hS ⟨hBw2004_w, hBw2004_wL2, hBw2004_w2004⟩ ?_ ?_
  · exact fun x y hI hb => ⟨below_step hI.1 hb, below_step hI.2.1 hb, below_step hI.2.2 hb⟩
  · exact .v (.v (.v (.v (.v (.v (.v (.v (.v (.v (.v (.nil)))))))))))
  · refine .on rfl (fun a w hS hI hp => does_val (x_move rfl (hS.get 7 rfl)) rfl) ?_
    refine .on rfl (fun a w hS hI hp => does_val (x_move rfl (hS.get 6 rfl)) rfl) ?_
    refine .on rfl (fun a w hS hI hp => does_val (x_move rfl (hS.get 8 rfl)) rfl) ?_
    refine .on rfl (fun a w hS hI hp => does_val (x_bin rfl ((hp.get 1 (by rfl) rfl rfl)) ((hp.get 2 (by rfl) rfl rfl)) (b_mul _ _ _ _ _)) rfl) ?_
    refine .on rfl (fun a w hS hI hp => does_val (x_move rfl (hS.get 6 rfl)) rfl) ?_
    refine .on rfl (fun a w hS hI hp => does_call (by kernel_rfl) (ar3 ((hp.get 0 (by rfl) rfl rfl)) ((hp.get 3 (by rfl) rfl rfl)) ((hp.get 4 (by rfl) rfl rfl))) ((octets_Get.calls k _ _ y2_6 (wrap64 (x2_5 * x2_8)) x2_5 t2007_1 t2007_2 _ (Kd.C_below hcL2_6 hI.2.1) hr2_6 At2007).mono fun _ _ h => ⟨_, h.1, h.2.below, rfl⟩)) ?_
    refine .on rfl (fun a w hS hI hp => does_val (x_move rfl ((hp.get 5 (by rfl) rfl rfl))) rfl) ?_
    refine .on rfl (fun a w hS hI hp => does_val (x_extract rfl ((hp.get 6 (by rfl) rfl rfl)) rfl) rfl) ?_
    refine .on rfl (fun a w hS hI hp => does_val (x_extract rfl ((hp.get 6 (by rfl) rfl rfl)) rfl) rfl) ?_
    refine .on rfl (fun a w hS hI hp => does_val (x_assign rfl ((hp.get 7 (by rfl) rfl rfl))) rfl) ?_
    refine .on rfl (fun a w hS hI hp => does_val (x_assign rfl ((hp.get 8 (by rfl) rfl rfl))) rfl) ?_
    exact .nil
  clear hS
  intro at2008 w2009 hS hI hp
  have hBw2009_w := hI.1
  have hBw2009_wL2 := hI.2.1
  have hBw2009_w2004 := hI.2.2
  have hv48 : sl _ 48 = .slice AL2_6 y2_6.length CL2_6 := hp 0 (by decide)
  have hv49 : sl _ 49 = .int .i64 x2_5 := hp 1 (by decide)
  have hv50 : sl _ 50 = .int .i64 x2_8 := hp 2 (by decide)
  have hv51 : sl _ 51 = .int .i64 (wrap64 (x2_5 * x2_8)) := hp 3 (by decide)
  have hv52 : sl _ 52 = .int .i64 x2_5 := hp 4 (by decide)
  have hv53 : sl _ 53 = .tuple #[.int .i64 t2007_1, .bool t2007_2] := hp 5 (by decide)
  have hv47 : sl _ 47 = .tuple #[.int .i64 t2007_1, .bool t2007_2] := hp 6 (by decide)
  have hv54 : sl _ 54 = .int .i64 t2007_1 := hp 7 (by decide)
  have hv55 : sl _ 55 = .bool t2007_2 := hp 8 (by decide)
  have hv9 : sl _ 9 = .int .i64 t2007_1 := hp 9 (by decide)
  have hv10 : sl _ 10 = .bool t2007_2 := hp 10 (by decide)
  have hBw2009_w2009 := Below.refl w2009.heap.size w2009
  have hS := hS.cons hv48
  have hS := hS.cons hv49
  have hS := hS.cons hv50
  have hS := hS.cons hv51
  have hS := hS.cons hv52
  have hS := hS.cons hv53
  have hS := hS.cons hv47
  have hS := hS.cons hv54
  have hS := hS.cons hv55
  have hS := hS.cons hv9
  have hS := hS.cons hv10
  clear hp hI hv48 hv49 hv50 hv51 hv52 hv53 hv47 hv54 hv55 hv9 hv10
  refine hK2006 _ _ ?_
  (try clear hK2006 K2006)
  refine wp_seq_k (fun K2010 hK2010 => ?_)
  refine reg_seq (N := 88) (bs := [(10, .bool t2007_2), (9, .int .i64 t2007_1), (55, .bool t2007_2), (54, .int .i64 t2007_1), (47, .tuple #[.int .i64 t2007_1, .bool t2007_2]), (53, .tuple #[.int .i64 t2007_1, .bool t2007_2]), (52, .int .i64 x2_5), (51, .int .i64 (wrap64 (x2_5 * x2_8))), (50, .int .i64 x2_8), (49, .int .i64 x2_5), (48, .slice AL2_6 y2_6.length CL2_6), (44, .bool (decide (x2_8 < (y2_0.length : Int)))), (43, .int .i64 (y2_0.length : Int)), (42, .slice AL2_0 y2_0.length CL2_0), (41, .int .i64 x2_8), (0, .slice AL2_0 y2_0.length CL2_0), (4, .bool x2_4), (5, .int .i64 x2_5), (6, .slice AL2_6 y2_6.length CL2_6), (8, .int .i64 x2_8)]) (I := fun x => Below w.heap.size w x ∧ Below wL2.heap.size wL2 x ∧ Below w2009.heap.size w2009 x) (ps := [IsV (.bool t2007_2), IsV (.bool (!t2007_2)), IsV (.bool (!t2007_2)), IsV (.int .i64 t2007_1), IsV (.slice AL2_0 y2_0.length CL2_0), IsV (.int .i64 x2_8), IsA (.int .i64 (rd y2_0 x2_8)), IsV (.int .i64 (rd y2_0 x2_8)), IsV (.int .i64 x2_5), IsV (.int .i64 (wrap64 (8 * x2_5))), IsV (.int .u64 (IntKind.u64.wrap (wrap64 (8 * x2_5)))), IsV (.int .i64 (shl .i64 1 (IntKind.u64.wrap (wrap64 (8 * x2_5))))), IsV (.int .i64 (wrap64 ((shl .i64 1 (IntKind.u64.wrap (wrap64 (8 * x2_5)))) - 1))), IsV (.int .i64 (Go.bits .and .i64 (rd y2_0 x2_8) (wrap64 ((shl .i64 1 (IntKind.u64.wrap (wrap64 (8 * x2_5)))) - 1)))), IsV (.bool (!decide (t2007_1 = (Go.bits .and .i64 (rd y2_0 x2_8) (wrap64 ((shl .i64 1 (IntKind.u64.wrap (wrap64 (8 * x2_5)))) - 1)))))), IsV (.bool (!decide (t2007_1 = (Go.bits .and .i64 (rd y2_0 x2_8) (wrap64 ((shl .i64 1 (IntKind.u64.wrap (wrap64 (8 * x2_5)))) - 1))))))]) (by kernel_rfl) ?_ ?_ rfl hS ⟨hBw2009_w, hBw2009_wL2, hBw2009_w2009⟩ ?_ ?_
  · exact fun x y hI hb => ⟨below_step hI.1 hb, below_step hI.2.1 hb, below_step hI.2.2 hb⟩
  · exact .v (.v (.v (.v (.v (.v (.cons (Stays.a _) (.v (.v (.v (.v (.v (.v (.v (.v (.v (.nil))))))))))))))))
  · refine .on rfl (fun a w hS hI hp => does_val (x_move rfl (hS.get 0 rfl)) rfl) ?_
    refine .on rfl (fun a w hS hI hp => does_val (x_not rfl ((hp.get 0 (by rfl) rfl rfl))) rfl) ?_
    refine .on rfl (fun a w hS hI hp => does_val (x_move rfl ((hp.get 1 (by rfl) rfl rfl))) rfl) ?_
    refine .of (fun a w hS hI hp => ok_y (d := 58) hS rfl rfl rfl (((hp.get 2 (by rfl) rfl rfl)).trans (bF (congrArg (!·) c6))) (does_val (x_move rfl (hS.get 1 rfl)) rfl)) ?_
    refine .of (fun a w hS hI hp => ok_y (d := 58) hS rfl rfl rfl (((hp.get 2 (by rfl) rfl rfl)).trans (bF (congrArg (!·) c6))) (does_val (x_move rfl (hS.get 15 rfl)) rfl)) ?_
    refine .of (fun a w hS hI hp => ok_y (d := 58) hS rfl rfl rfl (((hp.get 2 (by rfl) rfl rfl)).trans (bF (congrArg (!·) c6))) (does_val (x_move rfl (hS.get 19 rfl)) rfl)) ?_
    refine .of (fun a w hS hI hp => ok_y (d := 58) hS rfl rfl rfl (((hp.get 2 (by rfl) rfl rfl)).trans (bF (congrArg (!·) c6))) (does_index (e := 3) (xs := y2_0) rfl ((hp.get 4 (by rfl) rfl rfl)) ((hp.get 5 (by rfl) rfl rfl)) (by kernel_rfl) (by kernel_rfl) c7 c5 c5 ((Kd.C_below hcL2_0 hI.2.1)))) ?_
    refine .of (fun a w hS hI hp => ok_y (d := 58) hS rfl rfl rfl (((hp.get 2 (by rfl) rfl rfl)).trans (bF (congrArg (!·) c6))) (((hp.get 6 (by rfl) rfl rfl)).elim fun _ h_ => does_val (x_load1 (d := .int .i64) rfl h_.1 (by kernel_rfl) rfl h_.2.2) rfl)) ?_
    refine .of (fun a w hS hI hp => ok_y (d := 58) hS rfl rfl rfl (((hp.get 2 (by rfl) rfl rfl)).trans (bF (congrArg (!·) c6))) (does_val (x_move rfl (hS.get 17 rfl)) rfl)) ?_
    refine .of (fun a w hS hI hp => ok_y (d := 58) hS rfl rfl rfl (((hp.get 2 (by rfl) rfl rfl)).trans (bF (congrArg (!·) c6))) (does_val (x_bin rfl (rfl) ((hp.get 8 (by rfl) rfl rfl)) (b_mul _ _ _ _ _)) rfl)) ?_
    refine .of (fun a w hS hI hp => ok_y (d := 58) hS rfl rfl rfl (((hp.get 2 (by rfl) rfl rfl)).trans (bF (congrArg (!·) c6))) (does_val (x_convI rfl (by kernel_rfl) (by kernel_rfl) ((hp.get 9 (by rfl) rfl rfl))) rfl)) ?_
    refine .of (fun a w hS hI hp => ok_y (d := 58) hS rfl rfl rfl (((hp.get 2 (by rfl) rfl rfl)).trans (bF (congrArg (!·) c6))) (does_val (x_bin rfl (rfl) ((hp.get 10 (by rfl) rfl rfl)) (b_shl _ _ _ _ _ _ _ c8)) rfl)) ?_
    refine .of (fun a w hS hI hp => ok_y (d := 58) hS rfl rfl rfl (((hp.get 2 (by rfl) rfl rfl)).trans (bF (congrArg (!·) c6))) (does_val (x_bin rfl ((hp.get 11 (by rfl) rfl rfl)) (rfl) (b_sub _ _ _ _ _)) rfl)) ?_
    refine .of (fun a w hS hI hp => ok_y (d := 58) hS rfl rfl rfl (((hp.get 2 (by rfl) rfl rfl)).trans (bF (congrArg (!·) c6))) (does_val (x_bin rfl ((hp.get 7 (by rfl) rfl rfl)) ((hp.get 12 (by rfl) rfl rfl)) (b_and _ _ _ _ _ _)) rfl)) ?_
    refine .of (fun a w hS hI hp => ok_y (d := 58) hS rfl rfl rfl (((hp.get 2 (by rfl) rfl rfl)).trans (bF (congrArg (!·) c6))) (does_val (x_bin rfl ((hp.get 3 (by rfl) rfl rfl)) ((hp.get 13 (by rfl) rfl rfl)) (b_neq _ _ _ _ _ _)) rfl)) ?_
    refine .on rfl (fun a w hS hI hp => does_val (x_pickF rfl (((hp.get 2 (by rfl) rfl rfl)).trans (bF (congrArg (!·) c6))) ((hp.get 14 (by rfl) rfl rfl))) rfl) ?_
    exact .nil
  clear hS
  intro at2011 w2012 hS hI hp
  have hBw2012_w := hI.1
  have hBw2012_wL2 := hI.2.1
  have hBw2012_w2009 := hI.2.2
  have hv56 : sl _ 56 = .bool t2007_2 := hp 0 (by decide)
  have hv57 : sl _ 57 = .bool (!t2007_2) := hp 1 (by decide)
  have hv58 : sl _ 58 = .bool (!t2007_2) := hp 2 (by decide)
  have hv59 : sl _ 59 = .int .i64 t2007_1 := hp 3 (by decide)
  have hv60 : sl _ 60 = .slice AL2_0 y2_0.length CL2_0 := hp 4 (by decide)
  have hv61 : sl _ 61 = .int .i64 x2_8 := hp 5 (by decide)
  have hv63 : sl _ 63 = .int .i64 (rd y2_0 x2_8) := hp 7 (by decide)
  have hv64 : sl _ 64 = .int .i64 x2_5 := hp 8 (by decide)
  have hv65 : sl _ 65 = .int .i64 (wrap64 (8 * x2_5)) := hp 9 (by decide)
  have hv66 : sl _ 66 = .int .u64 (IntKind.u64.wrap (wrap64 (8 * x2_5))) := hp 10 (by decide)
  have hv67 : sl _ 67 = .int .i64 (shl .i64 1 (IntKind.u64.wrap (wrap64 (8 * x2_5)))) := hp 11 (by decide)
  have hv68 : sl _ 68 = .int .i64 (wrap64 ((shl .i64 1 (IntKind.u64.wrap (wrap64 (8 * x2_5)))) - 1)) := hp 12 (by decide)
  have hv69 : sl _ 69 = .int .i64 (Go.bits .and .i64 (rd y2_0 x2_8) (wrap64 ((shl .i64 1 (IntKind.u64.wrap (wrap64 (8 * x2_5)))) - 1))) := hp 13 (by decide)
  have hv70 : sl _ 70 = .bool (!decide (t2007_1 = (Go.bits .and .i64 (rd y2_0 x2_8) (wrap64 ((shl .i64 1 (IntKind.u64.wrap (wrap64 (8 * x2_5)))) - 1))))) := hp 14 (by decide)
  have hv71 : sl _ 71 = .bool (!decide (t2007_1 = (Go.bits .and .i64 (rd y2_0 x2_8) (wrap64 ((shl .i64 1 (IntKind.u64.wrap (wrap64 (8 * x2_5)))) - 1))))) := hp 15 (by decide)
  have hBw2012_w2012 := Below.refl w2012.heap.size w2012
  have hS := hS.cons hv56
  have hS := hS.cons hv57
  have hS := hS.cons hv58
  have hS := hS.cons hv59
  have hS := hS.cons hv60
  have hS := hS.cons hv61
  have hS := hS.cons hv63
  have hS := hS.cons hv64
  have hS := hS.cons hv65
  have hS := hS.cons hv66
  have hS := hS.cons hv67
  have hS := hS.cons hv68
  have hS := hS.cons hv69
  have hS := hS.cons hv70
  have hS := hS.cons hv71
  clear hp hI hv56 hv57 hv58 hv59 hv60 hv61 hv63 hv64 hv65 hv66 hv67 hv68 hv69 hv70 hv71
  refine hK2010 _ _ ?_
  (try clear hK2010 K2010)
  refine wp_cond_false ((hS.get 0 rfl).trans (bF (congrArg (!·) (decide_eq_true c9)))) ?_
  refine wp_skip ?_
  refine hK2005 _ _ ?_
  (try clear hK2005 K2005)
  refine reg_seq_tail 2 (N := 88) (bs := [(71, .bool (!decide (t2007_1 = (Go.bits .and .i64 (rd y2_0 x2_8) (wrap64 ((shl .i64 1 (IntKind.u64.wrap (wrap64 (8 * x2_5)))) - 1)))))), (70, .bool (!decide (t2007_1 = (Go.bits .and .i64 (rd y2_0 x2_8) (wrap64 ((shl .i64 1 (IntKind.u64.wrap (wrap64 (8 * x2_5)))) - 1)))))), (69, .int .i64 (Go.bits .and .i64 (rd y2_0 x2_8) (wrap64 ((shl .i64 1 (IntKind.u64.wrap (wrap64 (8 * x2_5)))) - 1)))), (68, .int .i64 (wrap64 ((shl .i64 1 (IntKind.u64.wrap (wrap64 (8 * x2_5)))) - 1))), (67, .int .i64 (shl .i64 1 (IntKind.u64.wrap (wrap64 (8 * x2_5))))), (66, .int .u64 (IntKind.u64.wrap (wrap64 (8 * x2_5)))), (65, .int .i64 (wrap64 (8 * x2_5))), (64, .int .i64 x2_5), (63, .int .i64 (rd y2_0 x2_8)), (61, .int .i64 x2_8), (60, .slice AL2_0 y2_0.length CL2_0), (59, .int .i64 t2007_1), (58, .bool (!t2007_2)), (57, .bool (!t2007_2)), (56, .bool t2007_2), (10, .bool t2007_2), (9, .int .i64 t2007_1), (55, .bool t2007_2), (54, .int .i64 t2007_1), (47, .tuple #[.int .i64 t2007_1, .bool t2007_2]), (53, .tuple #[.int .i64 t2007_1, .bool t2007_2]), (52, .int .i64 x2_5), (51, .int .i64 (wrap64 (x2_5 * x2_8))), (50, .int .i64 x2_8), (49, .int .i64 x2_5), (48, .slice AL2_6 y2_6.length CL2_6), (44, .bool (decide (x2_8 < (y2_0.length : Int)))), (43, .int .i64 (y2_0.length : Int)), (42, .slice AL2_0 y2_0.length CL2_0), (41, .int .i64 x2_8), (0, .slice AL2_0 y2_0.length CL2_0), (4, .bool x2_4), (5, .int .i64 x2_5), (6, .slice AL2_6 y2_6.length CL2_6), (8, .int .i64 x2_8)]) (I := fun x => Below w.heap.size w x ∧ Below wL2.heap.size wL2 x ∧ Below w2012.heap.size w2012 x) (ps := [IsV (.int .i64 x2_8), IsV (.int .i64 (wrap64 (x2_8 + 1)))]) (by kernel_rfl) ?_ ?_ rfl hS ⟨hBw2012_w, hBw2012_wL2, hBw2012_w2012⟩ ?_ ?_
  · exact fun x y hI hb => ⟨below_step hI.1 hb, below_step hI.2.1 hb, below_step hI.2.2 hb⟩
  · exact .v (.v (.nil))
  · refine .on rfl (fun a w hS hI hp => does_val (x_move rfl (hS.get 34 rfl)) rfl) ?_
    refine .on rfl (fun a w hS hI hp => does_val (x_bin rfl ((hp.get 0 (by rfl) rfl rfl)) (rfl) (b_add _ _ _ _ _)) rfl) ?_
    exact .nil
  clear hS
  intro at2013 w2014 hS hI hp
  have hBw2014_w := hI.1
  have hBw2014_wL2 := hI.2.1
  have hBw2014_w2012 := hI.2.2
  have hv45 : sl _ 45 = .int .i64 x2_8 := hp 0 (by decide)
  have hv46 : sl _ 46 = .int .i64 (wrap64 (x2_8 + 1)) := hp 1 (by decide)
  have hBw2014_w2014 := Below.refl w2014.heap.size w2014
  have hS := hS.cons hv45
  have hS := hS.cons hv46
  clear hp hI hv45 hv46
  show wpList _ _ _ [_] _ _
  refine list_step rfl (R := fun v w' => Below _ _ w' ∧ (IsV (.int .i64 (wrap64 (x2_8 + 1)))) v w') (does_val (x_assign rfl (hS.get 0 rfl)) rfl) ?_
  rintro vw2015 w2015 ⟨hb, he⟩
  have hBw2015_w := below_step hBw2014_w hb
  have hBw2015_wL2 := below_step hBw2014_wL2 hb
  have hBw2015_w2014 := below_step hBw2014_w2014 hb
  have hBw2015_w2015 := Below.refl w2015.heap.size w2015
  obtain rfl : vw2015 = .int .i64 (wrap64 (x2_8 + 1)) := he
  replace hS := ((((((((((((((((((((((((((((((((((((hS.nil).cons (hS.get 35 rfl)).cons (hS.get 34 rfl)).cons (hS.get 33 rfl)).cons (hS.get 32 rfl)).cons (hS.get 31 rfl)).cons (hS.get 30 rfl)).cons (hS.get 29 rfl)).cons (hS.get 28 rfl)).cons (hS.get 27 rfl)).cons (hS.get 26 rfl)).cons (hS.get 25 rfl)).cons (hS.get 24 rfl)).cons (hS.get 23 rfl)).cons (hS.get 22 rfl)).cons (hS.get 21 rfl)).cons (hS.get 20 rfl)).cons (hS.get 19 rfl)).cons (hS.get 18 rfl)).cons (hS.get 17 rfl)).cons (hS.get 16 rfl)).cons (hS.get 15 rfl)).cons (hS.get 14 rfl)).cons (hS.get 13 rfl)).cons (hS.get 12 rfl)).cons (hS.get 11 rfl)).cons (hS.get 10 rfl)).cons (hS.get 9 rfl)).cons (hS.get 8 rfl)).cons (hS.get 7 rfl)).cons (hS.get 6 rfl)).cons (hS.get 5 rfl)).cons (hS.get 4 rfl)).cons (hS.get 3 rfl)).cons (hS.get 2 rfl)).cons (hS.get 1 rfl)).cons (hS.get 0 rfl)
  refine hS.next (v := .int .i64 (wrap64 (x2_8 + 1))) (d := 8) rfl (by decide) (by rfl) ?_
  clear hS
  intro at2016 hS
  refine wpList_nil ?_
  replace hS := (((((hS.nil).cons (hS.get 0 rfl)).cons (hS.get 36 rfl)).cons (hS.get 35 rfl)).cons (hS.get 34 rfl)).cons (hS.get 33 rfl)
  (try simp only [Exit.then, Exit.inBlock])
  exact ⟨n2, Nat.lt_succ_self _, y2_0, AL2_0, CL2_0, x2_4, x2_5, y2_6, AL2_6, CL2_6, wrap64 (x2_8 + 1), H, hS, hBw2015_w, hr2_0, (Kd.C_below hcL2_0 hBw2015_wL2), hr2_6, (Kd.C_below hcL2_6 hBw2015_wL2)⟩

/-- The one pure statement of carillonlaw01_OctetsMany. -/
def carillonlaw01_OctetsMany.Pure : Prop := ∀ (l0 : List Int) (a1 : Int), l0.length ≤ maxLen → l0.length * 8 ≤ 140737488351232 → (∀ x ∈ l0, (Lit.int .i64 x).wf = true) → (Lit.int .i64 a1).wf = true → ∃ k, carillonlaw01_OctetsMany.f k l0 a1 = some true
theorem carillonlaw01_OctetsMany.walk (P : carillonlaw01_OctetsMany.Pure) (a0 : Option Addr) (len0 cap0 : Nat) (z0 : List Int) (a1 : Int) (w : World) (w0 : (a0 = none ∧ len0 = 0 ∧ cap0 = 0 ∧ z0 = []) ∨ ∃ x, a0 = some x ∧ len0 ≤ cap0 ∧ cap0 ≤ maxLen ∧ z0.length = cap0 ∧ (∀ i, i < z0.length → w.cell? (x.add i) = some (.int .i64 (z0.getD i 0))) ∧ ∀ n ∈ z0, (Lit.int .i64 n).wf = true) (y0 : len0 * 8 ≤ 140737488351232) (w1 : (Lit.int .i64 a1).wf = true) :
    Calls Try.prog 6 #[.slice a0 len0 cap0, .int .i64 a1] w fun e w' => e = .returned (.bool true) ∧ Below w.heap.size w w' := by
  obtain ⟨l0, rfl, hr0, hm0, hw0, hc0⟩ := ReadsInt.ofRowC w0
  obtain ⟨k, h⟩ := P l0 a1 hm0 y0 hw0 w1
  refine (carillonlaw01_OctetsMany.calls k _ _ l0 a1 w (Kd.C_of_reads (d := (0 : Int)) (h1 := fun _ => rfl) hr0) hc0 h).mono ?_
  rintro e w' ⟨rfl, hd⟩
  exact ⟨rfl, hd⟩

end Go.Proofs.Ythdigeknonamaaa.P
