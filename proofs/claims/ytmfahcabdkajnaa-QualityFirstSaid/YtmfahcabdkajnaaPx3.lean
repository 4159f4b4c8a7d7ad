/- Functions and loops of the given program as Lean functions, and that the code comes to what they say: written by this session's own program; Lean checks it. -/
import Derived.Test.YtmfahcabdkajnaaPx0
import Derived.Test.YtmfahcabdkajnaaPx1
import Derived.Test.YtmfahcabdkajnaaPx2
namespace Go.Proofs.Ytmfahcabdkajnaa.P
open Go.RowKit Go.Proofs.YtmfahcabdkajnaaW.PrintWords Go.Proofs.YtmfahcabdkajnaaW.PrintLast Go.Proofs.YtmfahcabdkajnaaW.PrintMore
attribute [local go_sem] max2_int min2_int max_two min_two max_three min_three max_four min_four   -- for this text's walks alone
set_option linter.unusedVariables false
set_option linter.unusedSimpArgs false

/-! ### carillonlaw05_QualityFirst: function 5: by our own printer -/
def carillonlaw05_QualityFirst.l1 (k : Nat) : Nat → (List (S26)) → Bool → Int → Int → Option (Bool)
  | 0, _, _, _, _ => none
  | n1 + 1, y1_0, x1_2, x1_3, x1_4 => if x1_4 < (y1_0.length : Int) then (if 0 ≤ x1_3 then (if x1_3 < (y1_0.length : Int) then (if 0 ≤ x1_4 then ((quality_Compare.f k ((rd_T26 y1_0 x1_3).f0) ((rd_T26 y1_0 x1_3).f1) ((rd_T26 y1_0 x1_3).f2) ((rd_T26 y1_0 x1_4).f0) ((rd_T26 y1_0 x1_4).f1) ((rd_T26 y1_0 x1_4).f2)).bind fun t1007 => (if t1007 > 0 then (some false) else (if x1_4 < x1_3 then (if t1007 = 0 then (some false) else (carillonlaw05_QualityFirst.l1 k n1 y1_0 x1_2 x1_3 (wrap64 (x1_4 + 1)))) else (carillonlaw05_QualityFirst.l1 k n1 y1_0 x1_2 x1_3 (wrap64 (x1_4 + 1)))))) else (none)) else (none)) else (none)) else ((carillonlaw05_awake.f k ).bind fun t1006 => (some t1006))
def carillonlaw05_QualityFirst.f (k : Nat) (l0 : List (S26)) : Option (Bool) := if (l0.length : Int) > 40 then (if 40 ≤ (l0.length : Int) then (if (l0.take (40 : Int).toNat).length * 24 ≤ 140737488355328 then ((quality_Best.f k (l0.take (40 : Int).toNat)).bind fun t13 => (if ((l0.take (40 : Int).toNat).length : Int) = 0 then (if t13 = (-1) then ((carillonlaw05_awake.f k ).bind fun t21 => (some t21)) else (some false)) else (if t13 < 0 then (some false) else (if t13 ≥ ((l0.take (40 : Int).toNat).length : Int) then (some false) else (carillonlaw05_QualityFirst.l1 k k (l0.take (40 : Int).toNat) false t13 0))))) else (none)) else (none)) else (if l0.length * 24 ≤ 140737488355328 then ((quality_Best.f k l0).bind fun t9 => (if (l0.length : Int) = 0 then (if t9 = (-1) then ((carillonlaw05_awake.f k ).bind fun t17 => (some t17)) else (some false)) else (if t9 < 0 then (some false) else (if t9 ≥ (l0.length : Int) then (some false) else (carillonlaw05_QualityFirst.l1 k k l0 false t9 0))))) else (none))
open Go.Proofs.Ytmfahcabdkajnaa.E in
theorem carillonlaw05_QualityFirst.flat26 : Flat k26 (fun x => [.int .i64 x.f0, .int .i64 x.f1, .int .i64 x.f2]) := ⟨fun w x cs h => k26_open h, fun w base x => k26_mkM w base _ x⟩
open Go.Proofs.Ytmfahcabdkajnaa.E in
set_option maxHeartbeats 8000000 in
set_option maxRecDepth 100000 in
theorem carillonlaw05_QualityFirst.calls (k : Nat) (A0 : Option Addr) (c0 : Nat) (l0 : List (S26)) (w : World) (HR0 : Kd.C k26 w A0 l0.length l0) (HC0 : l0.length ≤ c0) (h : carillonlaw05_QualityFirst.f k l0 = some true) :
    Calls Try.prog 5 #[.slice A0 l0.length c0] w fun e w' => e = .returned (.bool true) ∧ Below w.heap.size w w' := by
  have H := h
  clear h
  unfold carillonlaw05_QualityFirst.f at H
  by_cases c1 : (l0.length : Int) > 40
  rotate_left
  · rw [if_neg c1] at H
    by_cases c2 : l0.length * 24 ≤ 140737488355328
    rotate_left
    · rw [if_neg c2] at H
      exact absurd H (by simp)
    rw [if_pos c2] at H
    obtain ⟨t9, At9, H⟩ := Option.bind_eq_some_iff.mp H
    by_cases c3 : (l0.length : Int) = 0
    · rw [if_pos c3] at H
      by_cases c4 : t9 = (-1)
      rotate_left
      · rw [if_neg c4] at H
        exact absurd H (by simp)
      rw [if_pos c4] at H
      obtain ⟨t17, At17, H⟩ := Option.bind_eq_some_iff.mp H
      have hret := Option.some.inj H
      clear H
      refine calls_of_wp (fn := Try.f5) (by kernel_rfl) rfl ?_
      have hS := St.enter #[.slice A0 l0.length c0] 57 (by simp) [(0, .slice A0 l0.length c0)] (by simp)
      have HB0 := Below.refl w.heap.size w
      refine wp_seq_k (fun K1 hK1 => ?_)
      refine reg_seq (N := 57) (bs := [(0, .slice A0 l0.length c0)]) (I := fun x => Below w.heap.size w x) (ps := [IsV (.bool false)]) (by kernel_rfl) ?_ ?_ rfl hS HB0 ?_ ?_
      · exact fun x y hI hb => below_step hI hb
      · exact .v (.nil)
      · refine .on rfl (fun a w hS hI hp => does_val (x_assign rfl (rfl)) rfl) ?_
        exact .nil
      clear hS
      intro at2 w3 hS hI hp
      have hBw3_w := hI
      have hv2 : sl _ 2 = .bool false := hp 0 (by decide)
      have hBw3_w3 := Below.refl w3.heap.size w3
      have hS := hS.cons hv2
      clear hp hI hv2
      refine hK1 _ _ ?_
      (try clear hK1 K1)
      refine wp_seq_k (fun K4 hK4 => ?_)
      refine wp_seq_k (fun K5 hK5 => ?_)
      refine reg_seq (N := 57) (bs := [(2, .bool false), (0, .slice A0 l0.length c0)]) (I := fun x => Below w.heap.size w x ∧ Below w3.heap.size w3 x) (ps := [IsV (.slice A0 l0.length c0), IsV (.int .i64 (l0.length : Int)), IsV (.bool (decide ((l0.length : Int) > 40)))]) (by kernel_rfl) ?_ ?_ rfl hS ⟨hBw3_w, hBw3_w3⟩ ?_ ?_
      · exact fun x y hI hb => ⟨below_step hI.1 hb, below_step hI.2 hb⟩
      · exact .v (.v (.v (.nil)))
      · refine .on rfl (fun a w hS hI hp => does_val (x_move rfl (hS.get 1 rfl)) rfl) ?_
        refine .on rfl (fun a w hS hI hp => does_val (x_len (e := 26) rfl (by kernel_rfl) ((hp.get 0 (by rfl) rfl rfl))) rfl) ?_
        refine .on rfl (fun a w hS hI hp => does_val (x_bin rfl ((hp.get 1 (by rfl) rfl rfl)) (rfl) (b_gtr _ _ _ _ _ _)) rfl) ?_
        exact .nil
      clear hS
      intro at6 w7 hS hI hp
      have hBw7_w := hI.1
      have hBw7_w3 := hI.2
      have hv8 : sl _ 8 = .bool (decide ((l0.length : Int) > 40)) := hp 2 (by decide)
      have hBw7_w7 := Below.refl w7.heap.size w7
      have hS := hS.cons hv8
      clear hp hI hv8
      refine hK5 _ _ ?_
      (try clear hK5 K5)
      refine wp_cond_false ((hS.get 0 rfl).trans (bF (decide_eq_false c1))) ?_
      refine wp_skip ?_
      refine hK4 _ _ ?_
      (try clear hK4 K4)
      refine wp_seq_k (fun K8 hK8 => ?_)
      refine reg_seq (N := 57) (bs := [(8, .bool (decide ((l0.length : Int) > 40))), (2, .bool false), (0, .slice A0 l0.length c0)]) (I := fun x => Below w.heap.size w x ∧ Below w7.heap.size w7 x) (ps := [IsV (.slice A0 l0.length c0), IsR k26 26 w7.heap.size l0, IsV (.int .i64 t9), IsV (.int .i64 t9)]) (by kernel_rfl) ?_ ?_ rfl hS ⟨hBw7_w, hBw7_w7⟩ ?_ ?_
      · exact fun x y hI hb => ⟨below_step hI.1 hb, below_step hI.2 hb⟩
      · exact .v (.cons (Stays.r _ _ _ _) (.v (.v (.nil))))
      · refine .on rfl (fun a w hS hI hp => does_val (x_move rfl (hS.get 2 rfl)) rfl) ?_
        refine .on rfl (fun a w hS hI hp => does_copyT carillonlaw05_QualityFirst.flat26 w7.heap.size _ (.tmp 11) 22 26 (.agg #[(.int .i64 0), (.int .i64 0), (.int .i64 0)]) 24 rfl (by kernel_rfl) (by kernel_rfl) rfl (by decide) (by decide) l0 _ _ _ (rfl) ((hp.get 0 (by rfl) rfl rfl)) ((Kd.C_below HR0 hI.1)) (hI.2).size c2) ?_
        refine .on rfl (fun a w hS hI hp => (IsC.of_r ((hp.get 1 (by rfl) rfl rfl))).elim fun A_ h_ => h_.elim fun c_ h_ => h_.elim fun hv_ h_ => h_.elim fun hl_ hc_ => does_call (by kernel_rfl) (ar1 (hv_)) ((quality_Best.calls k _ _ l0 t9 _ hc_ hl_ At9).mono fun _ _ h => ⟨_, h.1, h.2, rfl⟩)) ?_
        refine .on rfl (fun a w hS hI hp => does_val (x_assign rfl ((hp.get 2 (by rfl) rfl rfl))) rfl) ?_
        exact .nil
      clear hS
      intro at10 w11 hS hI hp
      have hBw11_w := hI.1
      have hBw11_w7 := hI.2
      have hv3 : sl _ 3 = .int .i64 t9 := hp 3 (by decide)
      have hBw11_w11 := Below.refl w11.heap.size w11
      have hS := hS.cons hv3
      clear hp hI hv3
      refine hK8 _ _ ?_
      (try clear hK8 K8)
      refine wp_seq_k (fun K12 hK12 => ?_)
      refine wp_seq_k (fun K13 hK13 => ?_)
      refine reg_seq (N := 57) (bs := [(3, .int .i64 t9), (8, .bool (decide ((l0.length : Int) > 40))), (2, .bool false), (0, .slice A0 l0.length c0)]) (I := fun x => Below w.heap.size w x ∧ Below w11.heap.size w11 x) (ps := [IsV (.slice A0 l0.length c0), IsV (.int .i64 (l0.length : Int)), IsV (.bool (decide ((l0.length : Int) = 0)))]) (by kernel_rfl) ?_ ?_ rfl hS ⟨hBw11_w, hBw11_w11⟩ ?_ ?_
      · exact fun x y hI hb => ⟨below_step hI.1 hb, below_step hI.2 hb⟩
      · exact .v (.v (.v (.nil)))
      · refine .on rfl (fun a w hS hI hp => does_val (x_move rfl (hS.get 3 rfl)) rfl) ?_
        refine .on rfl (fun a w hS hI hp => does_val (x_len (e := 26) rfl (by kernel_rfl) ((hp.get 0 (by rfl) rfl rfl))) rfl) ?_
        refine .on rfl (fun a w hS hI hp => does_val (x_bin rfl ((hp.get 1 (by rfl) rfl rfl)) (rfl) (b_eql _ _ _ _ _ _)) rfl) ?_
        exact .nil
      clear hS
      intro at14 w15 hS hI hp
      have hBw15_w := hI.1
      have hBw15_w11 := hI.2
      have hv16 : sl _ 16 = .bool (decide ((l0.length : Int) = 0)) := hp 2 (by decide)
      have hBw15_w15 := Below.refl w15.heap.size w15
      have hS := hS.cons hv16
      clear hp hI hv16
      refine hK13 _ _ ?_
      (try clear hK13 K13)
      refine wp_cond_true ((hS.get 0 rfl).trans (bT (decide_eq_true c3))) ?_
      refine wp_seq_k (fun K16 hK16 => ?_)
      replace hS := ((((hS.nil).cons (hS.get 4 rfl)).cons (hS.get 2 rfl)).cons (hS.get 1 rfl)).cons (hS.get 0 rfl)
      refine reg_seq (N := 57) (bs := [(16, .bool (decide ((l0.length : Int) = 0))), (3, .int .i64 t9), (8, .bool (decide ((l0.length : Int) > 40))), (0, .slice A0 l0.length c0)]) (I := fun x => Below w.heap.size w x ∧ Below w15.heap.size w15 x) (ps := [IsV (.int .i64 t9), IsV (.bool (decide (t9 = (-1)))), IsV (.bool (decide (t9 = (-1)))), IsV (.bool t17), IsV (.bool t17), IsV (.bool t17)]) (by kernel_rfl) ?_ ?_ rfl hS ⟨hBw15_w, hBw15_w15⟩ ?_ ?_
      · exact fun x y hI hb => ⟨below_step hI.1 hb, below_step hI.2 hb⟩
      · exact .v (.v (.v (.v (.v (.v (.nil))))))
      · refine .on rfl (fun a w hS hI hp => does_val (x_move rfl (hS.get 1 rfl)) rfl) ?_
        refine .on rfl (fun a w hS hI hp => does_val (x_bin rfl ((hp.get 0 (by rfl) rfl rfl)) (rfl) (b_eql _ _ _ _ _ _)) rfl) ?_
        refine .on rfl (fun a w hS hI hp => does_val (x_move rfl ((hp.get 1 (by rfl) rfl rfl))) rfl) ?_
        refine .of (fun a w hS hI hp => ok_y (d := 19) hS rfl rfl rfl (((hp.get 2 (by rfl) rfl rfl)).trans (bT (decide_eq_true c4))) (does_call (by kernel_rfl) rfl ((carillonlaw05_awake.calls k  t17 _  At17).mono fun _ _ h => ⟨_, h.1, h.2, rfl⟩))) ?_
        refine .on rfl (fun a w hS hI hp => does_val (x_pickT rfl (((hp.get 2 (by rfl) rfl rfl)).trans (bT (decide_eq_true c4))) ((hp.get 3 (by rfl) rfl rfl))) rfl) ?_
        refine .on rfl (fun a w hS hI hp => does_val (x_assign rfl ((hp.get 4 (by rfl) rfl rfl))) rfl) ?_
        exact .nil
      clear hS
      intro at18 w19 hS hI hp
      have hBw19_w := hI.1
      have hBw19_w15 := hI.2
      have hv2 : sl _ 2 = .bool t17 := hp 5 (by decide)
      have hBw19_w19 := Below.refl w19.heap.size w19
      have hS := hS.cons hv2
      clear hp hI hv2
      refine hK16 _ _ ?_
      (try clear hK16 K16)
      refine wp_ret ?_
      (try simp only [Exit.then, Exit.inBlock])
      exact bodyPost_ret (v := .bool true) (by rw [results_tmp rfl]; exact congrArg (Result.ok · _) ((hS.get 0 rfl).trans (congrArg Value.bool hret))) hS.nodef ⟨rfl, hBw19_w⟩
    rw [if_neg c3] at H
    by_cases c4 : t9 < 0
    · rw [if_pos c4] at H
      exact absurd H (by simp)
    rw [if_neg c4] at H
    by_cases c5 : t9 ≥ (l0.length : Int)
    · rw [if_pos c5] at H
      exact absurd H (by simp)
    rw [if_neg c5] at H
    refine calls_of_wp (fn := Try.f5) (by kernel_rfl) rfl ?_
    have hS := St.enter #[.slice A0 l0.length c0] 57 (by simp) [(0, .slice A0 l0.length c0)] (by simp)
    have HB0 := Below.refl w.heap.size w
    refine wp_seq_k (fun K1 hK1 => ?_)
    refine reg_seq (N := 57) (bs := [(0, .slice A0 l0.length c0)]) (I := fun x => Below w.heap.size w x) (ps := [IsV (.bool false)]) (by kernel_rfl) ?_ ?_ rfl hS HB0 ?_ ?_
    · exact fun x y hI hb => below_step hI hb
    · exact .v (.nil)
    · refine .on rfl (fun a w hS hI hp => does_val (x_assign rfl (rfl)) rfl) ?_
      exact .nil
    clear hS
    intro at2 w3 hS hI hp
    have hBw3_w := hI
    have hv2 : sl _ 2 = .bool false := hp 0 (by decide)
    have hBw3_w3 := Below.refl w3.heap.size w3
    have hS := hS.cons hv2
    clear hp hI hv2
    refine hK1 _ _ ?_
    (try clear hK1 K1)
    refine wp_seq_k (fun K4 hK4 => ?_)
    refine wp_seq_k (fun K5 hK5 => ?_)
    refine reg_seq (N := 57) (bs := [(2, .bool false), (0, .slice A0 l0.length c0)]) (I := fun x => Below w.heap.size w x ∧ Below w3.heap.size w3 x) (ps := [IsV (.slice A0 l0.length c0), IsV (.int .i64 (l0.length : Int)), IsV (.bool (decide ((l0.length : Int) > 40)))]) (by kernel_rfl) ?_ ?_ rfl hS ⟨hBw3_w, hBw3_w3⟩ ?_ ?_
    · exact fun x y hI hb => ⟨below_step hI.1 hb, below_step hI.2 hb⟩
    · exact .v (.v (.v (.nil)))
    · refine .on rfl (fun a w hS hI hp => does_val (x_move rfl (hS.get 1 rfl)) rfl) ?_
      refine .on rfl (fun a w hS hI hp => does_val (x_len (e := 26) rfl (by kernel_rfl) ((hp.get 0 (by rfl) rfl rfl))) rfl) ?_
      refine .on rfl (fun a w hS hI hp => does_val (x_bin rfl ((hp.get 1 (by rfl) rfl rfl)) (rfl) (b_gtr _ _ _ _ _ _)) rfl) ?_
      exact .nil
    clear hS
    intro at6 w7 hS hI hp
    have hBw7_w := hI.1
    have hBw7_w3 := hI.2
    have hv8 : sl _ 8 = .bool (decide ((l0.length : Int) > 40)) := hp 2 (by decide)
    have hBw7_w7 := Below.refl w7.heap.size w7
    have hS := hS.cons hv8
    clear hp hI hv8
    refine hK5 _ _ ?_
    (try clear hK5 K5)
    refine wp_cond_false ((hS.get 0 rfl).trans (bF (decide_eq_false c1))) ?_
    refine wp_skip ?_
    refine hK4 _ _ ?_
    (try clear hK4 K4)
    refine wp_seq_k (fun K8 hK8 => ?_)
    refine reg_seq (N := 57) (bs := [(8, .bool (decide ((l0.length : Int) > 40))), (2, .bool false), (0, .slice A0 l0.length c0)]) (I := fun x => Below w.heap.size w x ∧ Below w7.heap.size w7 x) (ps := [IsV (.slice A0 l0.length c0), IsR k26 26 w7.heap.size l0, IsV (.int .i64 t9), IsV (.int .i64 t9)]) (by kernel_rfl) ?_ ?_ rfl hS ⟨hBw7_w, hBw7_w7⟩ ?_ ?_
    · exact fun x y hI hb => ⟨below_step hI.1 hb, below_step hI.2 hb⟩
    · exact .v (.cons (Stays.r _ _ _ _) (.v (.v (.nil))))
    · refine .on rfl (fun a w hS hI hp => does_val (x_move rfl (hS.get 2 rfl)) rfl) ?_
      refine .on rfl (fun a w hS hI hp => does_copyT carillonlaw05_QualityFirst.flat26 w7.heap.size _ (.tmp 11) 22 26 (.agg #[(.int .i64 0), (.int .i64 0), (.int .i64 0)]) 24 rfl (by kernel_rfl) (by kernel_rfl) rfl (by decide) (by decide) l0 _ _ _ (rfl) ((hp.get 0 (by rfl) rfl rfl)) ((Kd.C_below HR0 hI.1)) (hI.2).size c2) ?_
      refine .on rfl (fun a w hS hI hp => (IsC.of_r ((hp.get 1 (by rfl) rfl rfl))).elim fun A_ h_ => h_.elim fun c_ h_ => h_.elim fun hv_ h_ => h_.elim fun hl_ hc_ => does_call (by kernel_rfl) (ar1 (hv_)) ((quality_Best.calls k _ _ l0 t9 _ hc_ hl_ At9).mono fun _ _ h => ⟨_, h.1, h.2, rfl⟩)) ?_
      refine .on rfl (fun a w hS hI hp => does_val (x_assign rfl ((hp.get 2 (by rfl) rfl rfl))) rfl) ?_
      exact .nil
    clear hS
    intro at10 w11 hS hI hp
    have hBw11_w := hI.1
    have hBw11_w7 := hI.2
    have hv3 : sl _ 3 = .int .i64 t9 := hp 3 (by decide)
    have hBw11_w11 := Below.refl w11.heap.size w11
    have hS := hS.cons hv3
    clear hp hI hv3
    refine hK8 _ _ ?_
    (try clear hK8 K8)
    refine wp_seq_k (fun K12 hK12 => ?_)
    refine wp_seq_k (fun K13 hK13 => ?_)
    refine reg_seq (N := 57) (bs := [(3, .int .i64 t9), (8, .bool (decide ((l0.length : Int) > 40))), (2, .bool false), (0, .slice A0 l0.length c0)]) (I := fun x => Below w.heap.size w x ∧ Below w11.heap.size w11 x) (ps := [IsV (.slice A0 l0.length c0), IsV (.int .i64 (l0.length : Int)), IsV (.bool (decide ((l0.length : Int) = 0)))]) (by kernel_rfl) ?_ ?_ rfl hS ⟨hBw11_w, hBw11_w11⟩ ?_ ?_
    · exact fun x y hI hb => ⟨below_step hI.1 hb, below_step hI.2 hb⟩
    · exact .v (.v (.v (.nil)))
    · refine .on rfl (fun a w hS hI hp => does_val (x_move rfl (hS.get 3 rfl)) rfl) ?_
      refine .on rfl (fun a w hS hI hp => does_val (x_len (e := 26) rfl (by kernel_rfl) ((hp.get 0 (by rfl) rfl rfl))) rfl) ?_
      refine .on rfl (fun a w hS hI hp => does_val (x_bin rfl ((hp.get 1 (by rfl) rfl rfl)) (rfl) (b_eql _ _ _ _ _ _)) rfl) ?_
      exact .nil
    clear hS
    intro at14 w15 hS hI hp
    have hBw15_w := hI.1
    have hBw15_w11 := hI.2
    have hv16 : sl _ 16 = .bool (decide ((l0.length : Int) = 0)) := hp 2 (by decide)
    have hBw15_w15 := Below.refl w15.heap.size w15
    have hS := hS.cons hv16
    clear hp hI hv16
    refine hK13 _ _ ?_
    (try clear hK13 K13)
    refine wp_cond_false ((hS.get 0 rfl).trans (bF (decide_eq_false c3))) ?_
    refine wp_skip ?_
    refine hK12 _ _ ?_
    (try clear hK12 K12)
    refine wp_seq_k (fun K16 hK16 => ?_)
    refine wp_seq_k (fun K17 hK17 => ?_)
    refine reg_seq (N := 57) (bs := [(16, .bool (decide ((l0.length : Int) = 0))), (3, .int .i64 t9), (8, .bool (decide ((l0.length : Int) > 40))), (2, .bool false), (0, .slice A0 l0.length c0)]) (I := fun x => Below w.heap.size w x ∧ Below w15.heap.size w15 x) (ps := [IsV (.int .i64 t9), IsV (.bool (decide (t9 < 0))), IsV (.bool (decide (t9 < 0))), IsV (.int .i64 t9), IsV (.slice A0 l0.length c0), IsV (.int .i64 (l0.length : Int)), IsV (.bool (decide (t9 ≥ (l0.length : Int)))), IsV (.bool (decide (t9 ≥ (l0.length : Int))))]) (by kernel_rfl) ?_ ?_ rfl hS ⟨hBw15_w, hBw15_w15⟩ ?_ ?_
    · exact fun x y hI hb => ⟨below_step hI.1 hb, below_step hI.2 hb⟩
    · exact .v (.v (.v (.v (.v (.v (.v (.v (.nil))))))))
    · refine .on rfl (fun a w hS hI hp => does_val (x_move rfl (hS.get 1 rfl)) rfl) ?_
      refine .on rfl (fun a w hS hI hp => does_val (x_bin rfl ((hp.get 0 (by rfl) rfl rfl)) (rfl) (b_lss _ _ _ _ _ _)) rfl) ?_
      refine .on rfl (fun a w hS hI hp => does_val (x_move rfl ((hp.get 1 (by rfl) rfl rfl))) rfl) ?_
      refine .of (fun a w hS hI hp => ok_y (d := 24) hS rfl rfl rfl (((hp.get 2 (by rfl) rfl rfl)).trans (bF (decide_eq_false c4))) (does_val (x_move rfl (hS.get 1 rfl)) rfl)) ?_
      refine .of (fun a w hS hI hp => ok_y (d := 24) hS rfl rfl rfl (((hp.get 2 (by rfl) rfl rfl)).trans (bF (decide_eq_false c4))) (does_val (x_move rfl (hS.get 4 rfl)) rfl)) ?_
      refine .of (fun a w hS hI hp => ok_y (d := 24) hS rfl rfl rfl (((hp.get 2 (by rfl) rfl rfl)).trans (bF (decide_eq_false c4))) (does_val (x_len (e := 26) rfl (by kernel_rfl) ((hp.get 4 (by rfl) rfl rfl))) rfl)) ?_
      refine .of (fun a w hS hI hp => ok_y (d := 24) hS rfl rfl rfl (((hp.get 2 (by rfl) rfl rfl)).trans (bF (decide_eq_false c4))) (does_val (x_bin rfl ((hp.get 3 (by rfl) rfl rfl)) ((hp.get 5 (by rfl) rfl rfl)) (b_geq _ _ _ _ _ _)) rfl)) ?_
      refine .on rfl (fun a w hS hI hp => does_val (x_pickF rfl (((hp.get 2 (by rfl) rfl rfl)).trans (bF (decide_eq_false c4))) ((hp.get 6 (by rfl) rfl rfl))) rfl) ?_
      exact .nil
    clear hS
    intro at18 w19 hS hI hp
    have hBw19_w := hI.1
    have hBw19_w15 := hI.2
    have hv29 : sl _ 29 = .bool (decide (t9 ≥ (l0.length : Int))) := hp 7 (by decide)
    have hBw19_w19 := Below.refl w19.heap.size w19
    have hS := hS.cons hv29
    clear hp hI hv29
    refine hK17 _ _ ?_
    (try clear hK17 K17)
    refine wp_cond_false ((hS.get 0 rfl).trans (bF (decide_eq_false c5))) ?_
    refine wp_skip ?_
    refine hK16 _ _ ?_
    (try clear hK16 K16)
    refine wp_seq_k (fun K20 hK20 => ?_)
    refine wp_seq_k (fun K21 hK21 => ?_)
    refine reg_seq (N := 57) (bs := [(29, .bool (decide (t9 ≥ (l0.length : Int)))), (16, .bool (decide ((l0.length : Int) = 0))), (3, .int .i64 t9), (8, .bool (decide ((l0.length : Int) > 40))), (2, .bool false), (0, .slice A0 l0.length c0)]) (I := fun x => Below w.heap.size w x ∧ Below w19.heap.size w19 x) (ps := [IsV (.int .i64 0)]) (by kernel_rfl) ?_ ?_ rfl hS ⟨hBw19_w, hBw19_w19⟩ ?_ ?_
    · exact fun x y hI hb => ⟨below_step hI.1 hb, below_step hI.2 hb⟩
    · exact .v (.nil)
    · refine .on rfl (fun a w hS hI hp => does_val (x_assign rfl (rfl)) rfl) ?_
      exact .nil
    clear hS
    intro at22 w23 hS hI hp
    have hBw23_w := hI.1
    have hBw23_w19 := hI.2
    have hv4 : sl _ 4 = .int .i64 0 := hp 0 (by decide)
    have hBw23_w23 := Below.refl w23.heap.size w23
    have hS := hS.cons hv4
    clear hp hI hv4
    refine hK21 _ _ ?_
    (try clear hK21 K21)
    refine wp_block ?_
    replace hS := ((((hS.nil).cons (hS.get 0 rfl)).cons (hS.get 3 rfl)).cons (hS.get 5 rfl)).cons (hS.get 6 rfl)
    refine wp_loop_ghost (fun n_ a_ wL1 => ∃ (y1_0 : List (S26)) (AL1_0 : Option Addr) (CL1_0 : Nat) (x1_2 : Bool) (x1_3 : Int) (x1_4 : Int), carillonlaw05_QualityFirst.l1 k n_ y1_0 x1_2 x1_3 x1_4 = some true ∧ St 57 [(0, .slice AL1_0 y1_0.length CL1_0), (2, .bool x1_2), (3, .int .i64 x1_3), (4, .int .i64 x1_4)] a_ ∧ Below w.heap.size w wL1 ∧ y1_0.length ≤ CL1_0 ∧ Kd.C k26 wL1 AL1_0 y1_0.length y1_0) k ⟨l0, A0, c0, false, t9, 0, H, hS, hBw23_w, HC0, (Kd.C_below HR0 hBw23_w)⟩ ?_
    clear H hS
    rintro n1 aL1 wL1 ⟨y1_0, AL1_0, CL1_0, x1_2, x1_3, x1_4, H, hS, hBwL1_w, hr1_0, hcL1_0⟩
    rcases n1 with _ | n1
    · exact absurd H (by simp [carillonlaw05_QualityFirst.l1])
    rw [carillonlaw05_QualityFirst.l1] at H
    (try dsimp only at H)
    by_cases c6 : x1_4 < (y1_0.length : Int)
    rotate_left
    · rw [if_neg c6] at H
      obtain ⟨t1006, At1006, H⟩ := Option.bind_eq_some_iff.mp H
      have hret := Option.some.inj H
      clear H
      have hBwL1_wL1 := Below.refl wL1.heap.size wL1
      refine wp_seq_k (fun K1001 hK1001 => ?_)
      refine wp_seq_k (fun K1002 hK1002 => ?_)
      refine reg_seq (N := 57) (bs := [(0, .slice AL1_0 y1_0.length CL1_0), (2, .bool x1_2), (3, .int .i64 x1_3), (4, .int .i64 x1_4)]) (I := fun x => Below w.heap.size w x ∧ Below wL1.heap.size wL1 x) (ps := [IsV (.int .i64 x1_4), IsV (.slice AL1_0 y1_0.length CL1_0), IsV (.int .i64 (y1_0.length : Int)), IsV (.bool (decide (x1_4 < (y1_0.length : Int))))]) (by kernel_rfl) ?_ ?_ rfl hS ⟨hBwL1_w, hBwL1_wL1⟩ ?_ ?_
      · exact fun x y hI hb => ⟨below_step hI.1 hb, below_step hI.2 hb⟩
      · exact .v (.v (.v (.v (.nil))))
      · refine .on rfl (fun a w hS hI hp => does_val (x_move rfl (hS.get 3 rfl)) rfl) ?_
        refine .on rfl (fun a w hS hI hp => does_val (x_move rfl (hS.get 0 rfl)) rfl) ?_
        refine .on rfl (fun a w hS hI hp => does_val (x_len (e := 26) rfl (by kernel_rfl) ((hp.get 1 (by rfl) rfl rfl))) rfl) ?_
        refine .on rfl (fun a w hS hI hp => does_val (x_bin rfl ((hp.get 0 (by rfl) rfl rfl)) ((hp.get 2 (by rfl) rfl rfl)) (b_lss _ _ _ _ _ _)) rfl) ?_
        exact .nil
      clear hS
      intro at1003 w1004 hS hI hp
      have hBw1004_w := hI.1
      have hBw1004_wL1 := hI.2
      have hv30 : sl _ 30 = .int .i64 x1_4 := hp 0 (by decide)
      have hv31 : sl _ 31 = .slice AL1_0 y1_0.length CL1_0 := hp 1 (by decide)
      have hv32 : sl _ 32 = .int .i64 (y1_0.length : Int) := hp 2 (by decide)
      have hv33 : sl _ 33 = .bool (decide (x1_4 < (y1_0.length : Int))) := hp 3 (by decide)
      have hBw1004_w1004 := Below.refl w1004.heap.size w1004
      have hS := hS.cons hv30
      have hS := hS.cons hv31
      have hS := hS.cons hv32
      have hS := hS.cons hv33
      clear hp hI hv30 hv31 hv32 hv33
      refine hK1002 _ _ ?_
      (try clear hK1002 K1002)
      refine wp_cond_false ((hS.get 0 rfl).trans (bF (decide_eq_false c6))) ?_
      refine wp_exit ?_
      (try simp only [Exit.then, Exit.inBlock, reduceIte])
      refine hK20 _ _ ?_
      (try clear hK20 K20)
      refine wp_seq_k (fun K1005 hK1005 => ?_)
      replace hS := (((((((hS.nil).cons (hS.get 7 rfl)).cons (hS.get 6 rfl)).cons (hS.get 4 rfl)).cons (hS.get 3 rfl)).cons (hS.get 2 rfl)).cons (hS.get 1 rfl)).cons (hS.get 0 rfl)
      refine reg_seq (N := 57) (bs := [(33, .bool (decide (x1_4 < (y1_0.length : Int)))), (32, .int .i64 (y1_0.length : Int)), (31, .slice AL1_0 y1_0.length CL1_0), (30, .int .i64 x1_4), (0, .slice AL1_0 y1_0.length CL1_0), (3, .int .i64 x1_3), (4, .int .i64 x1_4)]) (I := fun x => Below w.heap.size w x ∧ Below wL1.heap.size wL1 x ∧ Below w1004.heap.size w1004 x) (ps := [IsV (.bool t1006), IsV (.bool t1006)]) (by kernel_rfl) ?_ ?_ rfl hS ⟨hBw1004_w, hBw1004_wL1, hBw1004_w1004⟩ ?_ ?_
      · exact fun x y hI hb => ⟨below_step hI.1 hb, below_step hI.2.1 hb, below_step hI.2.2 hb⟩
      · exact .v (.v (.nil))
      · refine .on rfl (fun a w hS hI hp => does_call (by kernel_rfl) rfl ((carillonlaw05_awake.calls k  t1006 _  At1006).mono fun _ _ h => ⟨_, h.1, h.2, rfl⟩)) ?_
        refine .on rfl (fun a w hS hI hp => does_val (x_assign rfl ((hp.get 0 (by rfl) rfl rfl))) rfl) ?_
        exact .nil
      clear hS
      intro at1007 w1008 hS hI hp
      have hBw1008_w := hI.1
      have hBw1008_wL1 := hI.2.1
      have hBw1008_w1004 := hI.2.2
      replace hS := (hS.nil).cons (hS.get 0 rfl)
      have hv2 : sl _ 2 = .bool t1006 := hp 1 (by decide)
      have hBw1008_w1008 := Below.refl w1008.heap.size w1008
      have hS := hS.cons hv2
      clear hp hI hv2
      refine hK1005 _ _ ?_
      (try clear hK1005 K1005)
      refine wp_ret ?_
      (try simp only [Exit.then, Exit.inBlock])
      exact bodyPost_ret (v := .bool true) (by rw [results_tmp rfl]; exact congrArg (Result.ok · _) ((hS.get 0 rfl).trans (congrArg Value.bool hret))) hS.nodef ⟨rfl, hBw1008_w⟩
    rw [if_pos c6] at H
    by_cases c7 : 0 ≤ x1_3
    rotate_left
    · rw [if_neg c7] at H
      exact absurd H (by simp)
    rw [if_pos c7] at H
    by_cases c8 : x1_3 < (y1_0.length : Int)
    rotate_left
    · rw [if_neg c8] at H
      exact absurd H (by simp)
    rw [if_pos c8] at H
    by_cases c9 : 0 ≤ x1_4
    rotate_left
    · rw [if_neg c9] at H
      exact absurd H (by simp)
    rw [if_pos c9] at H
    obtain ⟨t1007, At1007, H⟩ := Option.bind_eq_some_iff.mp H
    by_cases c10 : t1007 > 0
    · rw [if_pos c10] at H
      exact absurd H (by simp)
    rw [if_neg c10] at H
    by_cases c11 : x1_4 < x1_3
    rotate_left
    · rw [if_neg c11] at H
      have hBwL1_wL1 := Below.refl wL1.heap.size wL1
      refine wp_seq_k (fun K1001 hK1001 => ?_)
      refine wp_seq_k (fun K1002 hK1002 => ?_)
      refine reg_seq (N := 57) (bs := [(0, .slice AL1_0 y1_0.length CL1_0), (2, .bool x1_2), (3, .int .i64 x1_3), (4, .int .i64 x1_4)]) (I := fun x => Below w.heap.size w x ∧ Below wL1.heap.size wL1 x) (ps := [IsV (.int .i64 x1_4), IsV (.slice AL1_0 y1_0.length CL1_0), IsV (.int .i64 (y1_0.length : Int)), IsV (.bool (decide (x1_4 < (y1_0.length : Int))))]) (by kernel_rfl) ?_ ?_ rfl hS ⟨hBwL1_w, hBwL1_wL1⟩ ?_ ?_
      · exact fun x y hI hb => ⟨below_step hI.1 hb, below_step hI.2 hb⟩
      · exact .v (.v (.v (.v (.nil))))
      · refine .on rfl (fun a w hS hI hp => does_val (x_move rfl (hS.get 3 rfl)) rfl) ?_
        refine .on rfl (fun a w hS hI hp => does_val (x_move rfl (hS.get 0 rfl)) rfl) ?_
        refine .on rfl (fun a w hS hI hp => does_val (x_len (e := 26) rfl (by kernel_rfl) ((hp.get 1 (by rfl) rfl rfl))) rfl) ?_
        refine .on rfl (fun a w hS hI hp => does_val (x_bin rfl ((hp.get 0 (by rfl) rfl rfl)) ((hp.get 2 (by rfl) rfl rfl)) (b_lss _ _ _ _ _ _)) rfl) ?_
        exact .nil
      clear hS
      intro at1003 w1004 hS hI hp
      have hBw1004_w := hI.1
      have hBw1004_wL1 := hI.2
      have hv30 : sl _ 30 = .int .i64 x1_4 := hp 0 (by decide)
      have hv31 : sl _ 31 = .slice AL1_0 y1_0.length CL1_0 := hp 1 (by decide)
      have hv32 : sl _ 32 = .int .i64 (y1_0.length : Int) := hp 2 (by decide)
      have hv33 : sl _ 33 = .bool (decide (x1_4 < (y1_0.length : Int))) := hp 3 (by decide)
      have hBw1004_w1004 := Below.refl w1004.heap.size w1004
      have hS := hS.cons hv30
      have hS := hS.cons hv31
      have hS := hS.cons hv32
      have hS := hS.cons hv33
      clear hp hI hv30 hv31 hv32 hv33
      refine hK1002 _ _ ?_
      (try clear hK1002 K1002)
      refine wp_cond_true ((hS.get 0 rfl).trans (bT (decide_eq_true c6))) ?_
      refine wp_skip ?_
      refine hK1001 _ _ ?_
      (try clear hK1001 K1001)
      refine wp_seq_k (fun K1005 hK1005 => ?_)
      refine wp_block ?_
      refine wp_seq_k (fun K1006 hK1006 => ?_)
      refine reg_any (N := 57) (bs := [(33, .bool (decide (x1_4 < (y1_0.length : Int)))), (32, .int .i64 (y1_0.length : Int)), (31, .slice AL1_0 y1_0.length CL1_0), (30, .int .i64 x1_4), (0, .slice AL1_0 y1_0.length CL1_0), (2, .bool x1_2), (3, .int .i64 x1_3), (4, .int .i64 x1_4)]) (I := fun x => Below w.heap.size w x ∧ Below wL1.heap.size wL1 x ∧ Below w1004.heap.size w1004 x) (ps := [IsV (.slice AL1_0 y1_0.length CL1_0), IsV (.int .i64 x1_3), IsAT [.int .i64 ((rd_T26 y1_0 x1_3).f0), .int .i64 ((rd_T26 y1_0 x1_3).f1), .int .i64 ((rd_T26 y1_0 x1_3).f2)], IsV (.agg #[.int .i64 ((rd_T26 y1_0 x1_3).f0), .int .i64 ((rd_T26 y1_0 x1_3).f1), .int .i64 ((rd_T26 y1_0 x1_3).f2)]), IsV (.slice AL1_0 y1_0.length CL1_0), IsV (.int .i64 x1_4), IsAT [.int .i64 ((rd_T26 y1_0 x1_4).f0), .int .i64 ((rd_T26 y1_0 x1_4).f1), .int .i64 ((rd_T26 y1_0 x1_4).f2)], IsV (.agg #[.int .i64 ((rd_T26 y1_0 x1_4).f0), .int .i64 ((rd_T26 y1_0 x1_4).f1), .int .i64 ((rd_T26 y1_0 x1_4).f2)]), IsV (.int .i64 t1007), IsV (.int .i64 t1007)]) (by kernel_rfl) (by kernel_rfl) ?_ ?_ rfl hS ⟨hBw1004_w, hBw1004_wL1, hBw1004_w1004⟩ ?_ ?_
      · exact fun x y hI hb => ⟨below_step hI.1 hb, below_step hI.2.1 hb, below_step hI.2.2 hb⟩
      · exact .v (.v (.cons (Stays.at_ _) (.v (.v (.v (.cons (Stays.at_ _) (.v (.v (.v (.nil))))))))))
      · refine .on rfl (fun a w hS hI hp => does_val (x_move rfl (hS.get 4 rfl)) rfl) ?_
        refine .on rfl (fun a w hS hI hp => does_val (x_move rfl (hS.get 6 rfl)) rfl) ?_
        refine .on rfl (fun a w hS hI hp => does_indexT carillonlaw05_QualityFirst.flat26 (e := 26) (xs := y1_0) (i := x1_3) z26 rfl ((hp.get 0 (by rfl) rfl rfl)) ((hp.get 1 (by rfl) rfl rfl)) (by kernel_rfl) (by kernel_rfl) c7 c8 c8 (by decide) ((Kd.C_below hcL1_0 hI.2.1))) ?_
        refine .on rfl (fun a w hS hI hp => does_loadT (cs := [.int .i64 ((rd_T26 y1_0 x1_3).f0), .int .i64 ((rd_T26 y1_0 x1_3).f1), .int .i64 ((rd_T26 y1_0 x1_3).f2)]) rfl ((hp.get 2 (by rfl) rfl rfl)) Try.underlying26 rfl (by kernel_rfl)) ?_
        refine .on rfl (fun a w hS hI hp => does_val (x_move rfl (hS.get 4 rfl)) rfl) ?_
        refine .on rfl (fun a w hS hI hp => does_val (x_move rfl (hS.get 7 rfl)) rfl) ?_
        refine .on rfl (fun a w hS hI hp => does_indexT carillonlaw05_QualityFirst.flat26 (e := 26) (xs := y1_0) (i := x1_4) z26 rfl ((hp.get 4 (by rfl) rfl rfl)) ((hp.get 5 (by rfl) rfl rfl)) (by kernel_rfl) (by kernel_rfl) c9 c6 c6 (by decide) ((Kd.C_below hcL1_0 hI.2.1))) ?_
        refine .on rfl (fun a w hS hI hp => does_loadT (cs := [.int .i64 ((rd_T26 y1_0 x1_4).f0), .int .i64 ((rd_T26 y1_0 x1_4).f1), .int .i64 ((rd_T26 y1_0 x1_4).f2)]) rfl ((hp.get 6 (by rfl) rfl rfl)) Try.underlying26 rfl (by kernel_rfl)) ?_
        refine .on rfl (fun a w hS hI hp => does_call (by kernel_rfl) (ar2 ((hp.get 3 (by rfl) rfl rfl)) ((hp.get 7 (by rfl) rfl rfl))) ((quality_Compare.calls k ((rd_T26 y1_0 x1_3).f0) ((rd_T26 y1_0 x1_3).f1) ((rd_T26 y1_0 x1_3).f2) ((rd_T26 y1_0 x1_4).f0) ((rd_T26 y1_0 x1_4).f1) ((rd_T26 y1_0 x1_4).f2) t1007 _  At1007).mono fun _ _ h => ⟨_, h.1, h.2, rfl⟩)) ?_
        refine .on rfl (fun a w hS hI hp => does_val (x_assign rfl ((hp.get 8 (by rfl) rfl rfl))) rfl) ?_
        exact .nil
      clear hS
      intro at1008 w1009 hS hI hp
      have hBw1009_w := hI.1
      have hBw1009_wL1 := hI.2.1
      have hBw1009_w1004 := hI.2.2
      have hv36 : sl _ 36 = .slice AL1_0 y1_0.length CL1_0 := hp 0 (by decide)
      have hv37 : sl _ 37 = .int .i64 x1_3 := hp 1 (by decide)
      have hv39 : sl _ 39 = .agg #[.int .i64 ((rd_T26 y1_0 x1_3).f0), .int .i64 ((rd_T26 y1_0 x1_3).f1), .int .i64 ((rd_T26 y1_0 x1_3).f2)] := hp 3 (by decide)
      have hv40 : sl _ 40 = .slice AL1_0 y1_0.length CL1_0 := hp 4 (by decide)
      have hv41 : sl _ 41 = .int .i64 x1_4 := hp 5 (by decide)
      have hv43 : sl _ 43 = .agg #[.int .i64 ((rd_T26 y1_0 x1_4).f0), .int .i64 ((rd_T26 y1_0 x1_4).f1), .int .i64 ((rd_T26 y1_0 x1_4).f2)] := hp 7 (by decide)
      have hv44 : sl _ 44 = .int .i64 t1007 := hp 8 (by decide)
      have hv5 : sl _ 5 = .int .i64 t1007 := hp 9 (by decide)
      have hBw1009_w1009 := Below.refl w1009.heap.size w1009
      have hS := hS.cons hv36
      have hS := hS.cons hv37
      have hS := hS.cons hv39
      have hS := hS.cons hv40
      have hS := hS.cons hv41
      have hS := hS.cons hv43
      have hS := hS.cons hv44
      have hS := hS.cons hv5
      clear hp hI hv36 hv37 hv39 hv40 hv41 hv43 hv44 hv5
      refine hK1006 _ _ ?_
      (try clear hK1006 K1006)
      refine wp_seq_k (fun K1010 hK1010 => ?_)
      refine reg_seq (N := 57) (bs := [(5, .int .i64 t1007), (44, .int .i64 t1007), (43, .agg #[.int .i64 ((rd_T26 y1_0 x1_4).f0), .int .i64 ((rd_T26 y1_0 x1_4).f1), .int .i64 ((rd_T26 y1_0 x1_4).f2)]), (41, .int .i64 x1_4), (40, .slice AL1_0 y1_0.length CL1_0), (39, .agg #[.int .i64 ((rd_T26 y1_0 x1_3).f0), .int .i64 ((rd_T26 y1_0 x1_3).f1), .int .i64 ((rd_T26 y1_0 x1_3).f2)]), (37, .int .i64 x1_3), (36, .slice AL1_0 y1_0.length CL1_0), (33, .bool (decide (x1_4 < (y1_0.length : Int)))), (32, .int .i64 (y1_0.length : Int)), (31, .slice AL1_0 y1_0.length CL1_0), (30, .int .i64 x1_4), (0, .slice AL1_0 y1_0.length CL1_0), (2, .bool x1_2), (3, .int .i64 x1_3), (4, .int .i64 x1_4)]) (I := fun x => Below w.heap.size w x ∧ Below wL1.heap.size wL1 x ∧ Below w1009.heap.size w1009 x) (ps := [IsV (.int .i64 t1007), IsV (.bool (decide (t1007 > 0))), IsV (.bool (decide (t1007 > 0))), IsV (.int .i64 x1_4), IsV (.int .i64 x1_3), IsV (.bool (decide (x1_4 < x1_3))), IsV (.bool (decide (x1_4 < x1_3))), IsV undef, IsV undef, IsV (.bool false), IsV (.bool false)]) (by kernel_rfl) ?_ ?_ rfl hS ⟨hBw1009_w, hBw1009_wL1, hBw1009_w1009⟩ ?_ ?_
      · exact fun x y hI hb => ⟨below_step hI.1 hb, below_step hI.2.1 hb, below_step hI.2.2 hb⟩
      · exact .v (.v (.v (.v (.v (.v (.v (.v (.v (.v (.v (.nil)))))))))))
      · refine .on rfl (fun a w hS hI hp => does_val (x_move rfl (hS.get 0 rfl)) rfl) ?_
        refine .on rfl (fun a w hS hI hp => does_val (x_bin rfl ((hp.get 0 (by rfl) rfl rfl)) (rfl) (b_gtr _ _ _ _ _ _)) rfl) ?_
        refine .on rfl (fun a w hS hI hp => does_val (x_move rfl ((hp.get 1 (by rfl) rfl rfl))) rfl) ?_
        refine .of (fun a w hS hI hp => ok_y (d := 47) hS rfl rfl rfl (((hp.get 2 (by rfl) rfl rfl)).trans (bF (decide_eq_false c10))) (does_val (x_move rfl (hS.get 15 rfl)) rfl)) ?_
        refine .of (fun a w hS hI hp => ok_y (d := 47) hS rfl rfl rfl (((hp.get 2 (by rfl) rfl rfl)).trans (bF (decide_eq_false c10))) (does_val (x_move rfl (hS.get 14 rfl)) rfl)) ?_
        refine .of (fun a w hS hI hp => ok_y (d := 47) hS rfl rfl rfl (((hp.get 2 (by rfl) rfl rfl)).trans (bF (decide_eq_false c10))) (does_val (x_bin rfl ((hp.get 3 (by rfl) rfl rfl)) ((hp.get 4 (by rfl) rfl rfl)) (b_lss _ _ _ _ _ _)) rfl)) ?_
        refine .of (fun a w hS hI hp => ok_y (d := 47) hS rfl rfl rfl (((hp.get 2 (by rfl) rfl rfl)).trans (bF (decide_eq_false c10))) (does_val (x_move rfl ((hp.get 5 (by rfl) rfl rfl))) rfl)) ?_
        refine .of (fun a w hS hI hp => ok_n (d := 51) hS rfl rfl rfl (((hp.get 6 (by rfl) rfl rfl)).trans (bF (decide_eq_false c11))) rfl) ?_
        refine .of (fun a w hS hI hp => ok_n (d := 51) hS rfl rfl rfl (((hp.get 6 (by rfl) rfl rfl)).trans (bF (decide_eq_false c11))) rfl) ?_
        refine .of (fun a w hS hI hp => ok_y (d := 47) hS rfl rfl rfl (((hp.get 2 (by rfl) rfl rfl)).trans (bF (decide_eq_false c10))) (does_val (x_pickF rfl (((hp.get 6 (by rfl) rfl rfl)).trans (bF (decide_eq_false c11))) (rfl)) rfl)) ?_
        refine .on rfl (fun a w hS hI hp => does_val (x_pickF rfl (((hp.get 2 (by rfl) rfl rfl)).trans (bF (decide_eq_false c10))) ((hp.get 9 (by rfl) rfl rfl))) rfl) ?_
        exact .nil
      clear hS
      intro at1011 w1012 hS hI hp
      have hBw1012_w := hI.1
      have hBw1012_wL1 := hI.2.1
      have hBw1012_w1009 := hI.2.2
      have hv45 : sl _ 45 = .int .i64 t1007 := hp 0 (by decide)
      have hv46 : sl _ 46 = .bool (decide (t1007 > 0)) := hp 1 (by decide)
      have hv47 : sl _ 47 = .bool (decide (t1007 > 0)) := hp 2 (by decide)
      have hv48 : sl _ 48 = .int .i64 x1_4 := hp 3 (by decide)
      have hv49 : sl _ 49 = .int .i64 x1_3 := hp 4 (by decide)
      have hv50 : sl _ 50 = .bool (decide (x1_4 < x1_3)) := hp 5 (by decide)
      have hv51 : sl _ 51 = .bool (decide (x1_4 < x1_3)) := hp 6 (by decide)
      have hv54 : sl _ 54 = .bool false := hp 9 (by decide)
      have hv55 : sl _ 55 = .bool false := hp 10 (by decide)
      have hBw1012_w1012 := Below.refl w1012.heap.size w1012
      have hS := hS.cons hv45
      have hS := hS.cons hv46
      have hS := hS.cons hv47
      have hS := hS.cons hv48
      have hS := hS.cons hv49
      have hS := hS.cons hv50
      have hS := hS.cons hv51
      have hS := hS.cons hv54
      have hS := hS.cons hv55
      clear hp hI hv45 hv46 hv47 hv48 hv49 hv50 hv51 hv54 hv55
      refine hK1010 _ _ ?_
      (try clear hK1010 K1010)
      refine wp_cond_false ((hS.get 0 rfl).trans (bF rfl)) ?_
      refine wp_skip ?_
      refine hK1005 _ _ ?_
      (try clear hK1005 K1005)
      refine reg_seq_tail 2 (N := 57) (bs := [(55, .bool false), (54, .bool false), (51, .bool (decide (x1_4 < x1_3))), (50, .bool (decide (x1_4 < x1_3))), (49, .int .i64 x1_3), (48, .int .i64 x1_4), (47, .bool (decide (t1007 > 0))), (46, .bool (decide (t1007 > 0))), (45, .int .i64 t1007), (5, .int .i64 t1007), (44, .int .i64 t1007), (43, .agg #[.int .i64 ((rd_T26 y1_0 x1_4).f0), .int .i64 ((rd_T26 y1_0 x1_4).f1), .int .i64 ((rd_T26 y1_0 x1_4).f2)]), (41, .int .i64 x1_4), (40, .slice AL1_0 y1_0.length CL1_0), (39, .agg #[.int .i64 ((rd_T26 y1_0 x1_3).f0), .int .i64 ((rd_T26 y1_0 x1_3).f1), .int .i64 ((rd_T26 y1_0 x1_3).f2)]), (37, .int .i64 x1_3), (36, .slice AL1_0 y1_0.length CL1_0), (33, .bool (decide (x1_4 < (y1_0.length : Int)))), (32, .int .i64 (y1_0.length : Int)), (31, .slice AL1_0 y1_0.length CL1_0), (30, .int .i64 x1_4), (0, .slice AL1_0 y1_0.length CL1_0), (2, .bool x1_2), (3, .int .i64 x1_3), (4, .int .i64 x1_4)]) (I := fun x => Below w.heap.size w x ∧ Below wL1.heap.size wL1 x ∧ Below w1012.heap.size w1012 x) (ps := [IsV (.int .i64 x1_4), IsV (.int .i64 (wrap64 (x1_4 + 1)))]) (by kernel_rfl) ?_ ?_ rfl hS ⟨hBw1012_w, hBw1012_wL1, hBw1012_w1012⟩ ?_ ?_
      · exact fun x y hI hb => ⟨below_step hI.1 hb, below_step hI.2.1 hb, below_step hI.2.2 hb⟩
      · exact .v (.v (.nil))
      · refine .on rfl (fun a w hS hI hp => does_val (x_move rfl (hS.get 24 rfl)) rfl) ?_
        refine .on rfl (fun a w hS hI hp => does_val (x_bin rfl ((hp.get 0 (by rfl) rfl rfl)) (rfl) (b_add _ _ _ _ _)) rfl) ?_
        exact .nil
      clear hS
      intro at1013 w1014 hS hI hp
      have hBw1014_w := hI.1
      have hBw1014_wL1 := hI.2.1
      have hBw1014_w1012 := hI.2.2
      have hv34 : sl _ 34 = .int .i64 x1_4 := hp 0 (by decide)
      have hv35 : sl _ 35 = .int .i64 (wrap64 (x1_4 + 1)) := hp 1 (by decide)
      have hBw1014_w1014 := Below.refl w1014.heap.size w1014
      have hS := hS.cons hv34
      have hS := hS.cons hv35
      clear hp hI hv34 hv35
      show wpList _ _ _ [_] _ _
      refine list_step rfl (R := fun v w' => Below _ _ w' ∧ (IsV (.int .i64 (wrap64 (x1_4 + 1)))) v w') (does_val (x_assign rfl (hS.get 0 rfl)) rfl) ?_
      rintro vw1015 w1015 ⟨hb, he⟩
      have hBw1015_w := below_step hBw1014_w hb
      have hBw1015_wL1 := below_step hBw1014_wL1 hb
      have hBw1015_w1014 := below_step hBw1014_w1014 hb
      have hBw1015_w1015 := Below.refl w1015.heap.size w1015
      obtain rfl : vw1015 = .int .i64 (wrap64 (x1_4 + 1)) := he
      replace hS := ((((((((((((((((((((((((((hS.nil).cons (hS.get 25 rfl)).cons (hS.get 24 rfl)).cons (hS.get 23 rfl)).cons (hS.get 22 rfl)).cons (hS.get 21 rfl)).cons (hS.get 20 rfl)).cons (hS.get 19 rfl)).cons (hS.get 18 rfl)).cons (hS.get 17 rfl)).cons (hS.get 16 rfl)).cons (hS.get 15 rfl)).cons (hS.get 14 rfl)).cons (hS.get 13 rfl)).cons (hS.get 12 rfl)).cons (hS.get 11 rfl)).cons (hS.get 10 rfl)).cons (hS.get 9 rfl)).cons (hS.get 8 rfl)).cons (hS.get 7 rfl)).cons (hS.get 6 rfl)).cons (hS.get 5 rfl)).cons (hS.get 4 rfl)).cons (hS.get 3 rfl)).cons (hS.get 2 rfl)).cons (hS.get 1 rfl)).cons (hS.get 0 rfl)
      refine hS.next (v := .int .i64 (wrap64 (x1_4 + 1))) (d := 4) rfl (by decide) (by rfl) ?_
      clear hS
      intro at1016 hS
      refine wpList_nil ?_
      replace hS := ((((hS.nil).cons (hS.get 0 rfl)).cons (hS.get 26 rfl)).cons (hS.get 25 rfl)).cons (hS.get 24 rfl)
      (try simp only [Exit.then, Exit.inBlock])
      exact ⟨n1, Nat.lt_succ_self _, y1_0, AL1_0, CL1_0, x1_2, x1_3, wrap64 (x1_4 + 1), H, hS, hBw1015_w, hr1_0, (Kd.C_below hcL1_0 hBw1015_wL1)⟩
    rw [if_pos c11] at H
    by_cases c12 : t1007 = 0
    · rw [if_pos c12] at H
      exact absurd H (by simp)
    rw [if_neg c12] at H
    have hBwL1_wL1 := Below.refl wL1.heap.size wL1
    refine wp_seq_k (fun K1001 hK1001 => ?_)
    refine wp_seq_k (fun K1002 hK1002 => ?_)
    refine reg_seq (N := 57) (bs := [(0, .slice AL1_0 y1_0.length CL1_0), (2, .bool x1_2), (3, .int .i64 x1_3), (4, .int .i64 x1_4)]) (I := fun x => Below w.heap.size w x ∧ Below wL1.heap.size wL1 x) (ps := [IsV (.int .i64 x1_4), IsV (.slice AL1_0 y1_0.length CL1_0), IsV (.int .i64 (y1_0.length : Int)), IsV (.bool (decide (x1_4 < (y1_0.length : Int))))]) (by kernel_rfl) ?_ ?_ rfl hS ⟨hBwL1_w, hBwL1_wL1⟩ ?_ ?_
    · exact fun x y hI hb => ⟨below_step hI.1 hb, below_step hI.2 hb⟩
    · exact .v (.v (.v (.v (.nil))))
    · refine .on rfl (fun a w hS hI hp => does_val (x_move rfl (hS.get 3 rfl)) rfl) ?_
      refine .on rfl (fun a w hS hI hp => does_val (x_move rfl (hS.get 0 rfl)) rfl) ?_
      refine .on rfl (fun a w hS hI hp => does_val (x_len (e := 26) rfl (by kernel_rfl) ((hp.get 1 (by rfl) rfl rfl))) rfl) ?_
      refine .on rfl (fun a w hS hI hp => does_val (x_bin rfl ((hp.get 0 (by rfl) rfl rfl)) ((hp.get 2 (by rfl) rfl rfl)) (b_lss _ _ _ _ _ _)) rfl) ?_
      exact .nil
    clear hS
    intro at1003 w1004 hS hI hp
    have hBw1004_w := hI.1
    have hBw1004_wL1 := hI.2
    have hv30 : sl _ 30 = .int .i64 x1_4 := hp 0 (by decide)
    have hv31 : sl _ 31 = .slice AL1_0 y1_0.length CL1_0 := hp 1 (by decide)
    have hv32 : sl _ 32 = .int .i64 (y1_0.length : Int) := hp 2 (by decide)
    have hv33 : sl _ 33 = .bool (decide (x1_4 < (y1_0.length : Int))) := hp 3 (by decide)
    have hBw1004_w1004 := Below.refl w1004.heap.size w1004
    have hS := hS.cons hv30
    have hS := hS.cons hv31
    have hS := hS.cons hv32
    have hS := hS.cons hv33
    clear hp hI hv30 hv31 hv32 hv33
    refine hK1002 _ _ ?_
    (try clear hK1002 K1002)
    refine wp_cond_true ((hS.get 0 rfl).trans (bT (decide_eq_true c6))) ?_
    refine wp_skip ?_
    refine hK1001 _ _ ?_
    (try clear hK1001 K1001)
    refine wp_seq_k (fun K1005 hK1005 => ?_)
    refine wp_block ?_
    refine wp_seq_k (fun K1006 hK1006 => ?_)
    refine reg_any (N := 57) (bs := [(33, .bool (decide (x1_4 < (y1_0.length : Int)))), (32, .int .i64 (y1_0.length : Int)), (31, .slice AL1_0 y1_0.length CL1_0), (30, .int .i64 x1_4), (0, .slice AL1_0 y1_0.length CL1_0), (2, .bool x1_2), (3, .int .i64 x1_3), (4, .int .i64 x1_4)]) (I := fun x => Below w.heap.size w x ∧ Below wL1.heap.size wL1 x ∧ Below w1004.heap.size w1004 x) (ps := [IsV (.slice AL1_0 y1_0.length CL1_0), IsV (.int .i64 x1_3), IsAT [.int .i64 ((rd_T26 y1_0 x1_3).f0), .int .i64 ((rd_T26 y1_0 x1_3).f1), .int .i64 ((rd_T26 y1_0 x1_3).f2)], IsV (.agg #[.int .i64 ((rd_T26 y1_0 x1_3).f0), .int .i64 ((rd_T26 y1_0 x1_3).f1), .int .i64 ((rd_T26 y1_0 x1_3).f2)]), IsV (.slice AL1_0 y1_0.length CL1_0), IsV (.int .i64 x1_4), IsAT [.int .i64 ((rd_T26 y1_0 x1_4).f0), .int .i64 ((rd_T26 y1_0 x1_4).f1), .int .i64 ((rd_T26 y1_0 x1_4).f2)], IsV (.agg #[.int .i64 ((rd_T26 y1_0 x1_4).f0), .int .i64 ((rd_T26 y1_0 x1_4).f1), .int .i64 ((rd_T26 y1_0 x1_4).f2)]), IsV (.int .i64 t1007), IsV (.int .i64 t1007)]) (by kernel_rfl) (by kernel_rfl) ?_ ?_ rfl hS ⟨hBw1004_w, hBw1004_wL1, hBw1004_w1004⟩ ?_ ?_
    · exact fun x y hI hb => ⟨below_step hI.1 hb, below_step hI.2.1 hb, below_step hI.2.2 hb⟩
    · exact .v (.v (.cons (Stays.at_ _) (.v (.v (.v (.cons (Stays.at_ _) (.v (.v (.v (.nil))))))))))
    · refine .on rfl (fun a w hS hI hp => does_val (x_move rfl (hS.get 4 rfl)) rfl) ?_
      refine .on rfl (fun a w hS hI hp => does_val (x_move rfl (hS.get 6 rfl)) rfl) ?_
      refine .on rfl (fun a w hS hI hp => does_indexT carillonlaw05_QualityFirst.flat26 (e := 26) (xs := y1_0) (i := x1_3) z26 rfl ((hp.get 0 (by rfl) rfl rfl)) ((hp.get 1 (by rfl) rfl rfl)) (by kernel_rfl) (by kernel_rfl) c7 c8 c8 (by decide) ((Kd.C_below hcL1_0 hI.2.1))) ?_
      refine .on rfl (fun a w hS hI hp => does_loadT (cs := [.int .i64 ((rd_T26 y1_0 x1_3).f0), .int .i64 ((rd_T26 y1_0 x1_3).f1), .int .i64 ((rd_T26 y1_0 x1_3).f2)]) rfl ((hp.get 2 (by rfl) rfl rfl)) Try.underlying26 rfl (by kernel_rfl)) ?_
      refine .on rfl (fun a w hS hI hp => does_val (x_move rfl (hS.get 4 rfl)) rfl) ?_
      refine .on rfl (fun a w hS hI hp => does_val (x_move rfl (hS.get 7 rfl)) rfl) ?_
      refine .on rfl (fun a w hS hI hp => does_indexT carillonlaw05_QualityFirst.flat26 (e := 26) (xs := y1_0) (i := x1_4) z26 rfl ((hp.get 4 (by rfl) rfl rfl)) ((hp.get 5 (by rfl) rfl rfl)) (by kernel_rfl) (by kernel_rfl) c9 c6 c6 (by decide) ((Kd.C_below hcL1_0 hI.2.1))) ?_
      refine .on rfl (fun a w hS hI hp => does_loadT (cs := [.int .i64 ((rd_T26 y1_0 x1_4).f0), .int .i64 ((rd_T26 y1_0 x1_4).f1), .int .i64 ((rd_T26 y1_0 x1_4).f2)]) rfl ((hp.get 6 (by rfl) rfl rfl)) Try.underlying26 rfl (by kernel_rfl)) ?_
      refine .on rfl (fun a w hS hI hp => does_call (by kernel_rfl) (ar2 ((hp.get 3 (by rfl) rfl rfl)) ((hp.get 7 (by rfl) rfl rfl))) ((quality_Compare.calls k ((rd_T26 y1_0 x1_3).f0) ((rd_T26 y1_0 x1_3).f1) ((rd_T26 y1_0 x1_3).f2) ((rd_T26 y1_0 x1_4).f0) ((rd_T26 y1_0 x1_4).f1) ((rd_T26 y1_0 x1_4).f2) t1007 _  At1007).mono fun _ _ h => ⟨_, h.1, h.2, rfl⟩)) ?_
      refine .on rfl (fun a w hS hI hp => does_val (x_assign rfl ((hp.get 8 (by rfl) rfl rfl))) rfl) ?_
      exact .nil
    clear hS
    intro at1008 w1009 hS hI hp
    have hBw1009_w := hI.1
    have hBw1009_wL1 := hI.2.1
    have hBw1009_w1004 := hI.2.2
    have hv36 : sl _ 36 = .slice AL1_0 y1_0.length CL1_0 := hp 0 (by decide)
    have hv37 : sl _ 37 = .int .i64 x1_3 := hp 1 (by decide)
    have hv39 : sl _ 39 = .agg #[.int .i64 ((rd_T26 y1_0 x1_3).f0), .int .i64 ((rd_T26 y1_0 x1_3).f1), .int .i64 ((rd_T26 y1_0 x1_3).f2)] := hp 3 (by decide)
    have hv40 : sl _ 40 = .slice AL1_0 y1_0.length CL1_0 := hp 4 (by decide)
    have hv41 : sl _ 41 = .int .i64 x1_4 := hp 5 (by decide)
    have hv43 : sl _ 43 = .agg #[.int .i64 ((rd_T26 y1_0 x1_4).f0), .int .i64 ((rd_T26 y1_0 x1_4).f1), .int .i64 ((rd_T26 y1_0 x1_4).f2)] := hp 7 (by decide)
    have hv44 : sl _ 44 = .int .i64 t1007 := hp 8 (by decide)
    have hv5 : sl _ 5 = .int .i64 t1007 := hp 9 (by decide)
    have hBw1009_w1009 := Below.refl w1009.heap.size w1009
    have hS := hS.cons hv36
    have hS := hS.cons hv37
    have hS := hS.cons hv39
    have hS := hS.cons hv40
    have hS := hS.cons hv41
    have hS := hS.cons hv43
    have hS := hS.cons hv44
    have hS := hS.cons hv5
    clear hp hI hv36 hv37 hv39 hv40 hv41 hv43 hv44 hv5
    refine hK1006 _ _ ?_
    (try clear hK1006 K1006)
    refine wp_seq_k (fun K1010 hK1010 => ?_)
    refine reg_seq (N := 57) (bs := [(5, .int .i64 t1007), (44, .int .i64 t1007), (43, .agg #[.int .i64 ((rd_T26 y1_0 x1_4).f0), .int .i64 ((rd_T26 y1_0 x1_4).f1), .int .i64 ((rd_T26 y1_0 x1_4).f2)]), (41, .int .i64 x1_4), (40, .slice AL1_0 y1_0.length CL1_0), (39, .agg #[.int .i64 ((rd_T26 y1_0 x1_3).f0), .int .i64 ((rd_T26 y1_0 x1_3).f1), .int .i64 ((rd_T26 y1_0 x1_3).f2)]), (37, .int .i64 x1_3), (36, .slice AL1_0 y1_0.length CL1_0), (33, .bool (decide (x1_4 < (y1_0.length : Int)))), (32, .int .i64 (y1_0.length : Int)), (31, .slice AL1_0 y1_0.length CL1_0), (30, .int .i64 x1_4), (0, .slice AL1_0 y1_0.length CL1_0), (2, .bool x1_2), (3, .int .i64 x1_3), (4, .int .i64 x1_4)]) (I := fun x => Below w.heap.size w x ∧ Below wL1.heap.size wL1 x ∧ Below w1009.heap.size w1009 x) (ps := [IsV (.int .i64 t1007), IsV (.bool (decide (t1007 > 0))), IsV (.bool (decide (t1007 > 0))), IsV (.int .i64 x1_4), IsV (.int .i64 x1_3), IsV (.bool (decide (x1_4 < x1_3))), IsV (.bool (decide (x1_4 < x1_3))), IsV (.int .i64 t1007), IsV (.bool (decide (t1007 = 0))), IsV (.bool (decide (t1007 = 0))), IsV (.bool (decide (t1007 = 0)))]) (by kernel_rfl) ?_ ?_ rfl hS ⟨hBw1009_w, hBw1009_wL1, hBw1009_w1009⟩ ?_ ?_
    · exact fun x y hI hb => ⟨below_step hI.1 hb, below_step hI.2.1 hb, below_step hI.2.2 hb⟩
    · exact .v (.v (.v (.v (.v (.v (.v (.v (.v (.v (.v (.nil)))))))))))
    · refine .on rfl (fun a w hS hI hp => does_val (x_move rfl (hS.get 0 rfl)) rfl) ?_
      refine .on rfl (fun a w hS hI hp => does_val (x_bin rfl ((hp.get 0 (by rfl) rfl rfl)) (rfl) (b_gtr _ _ _ _ _ _)) rfl) ?_
      refine .on rfl (fun a w hS hI hp => does_val (x_move rfl ((hp.get 1 (by rfl) rfl rfl))) rfl) ?_
      refine .of (fun a w hS hI hp => ok_y (d := 47) hS rfl rfl rfl (((hp.get 2 (by rfl) rfl rfl)).trans (bF (decide_eq_false c10))) (does_val (x_move rfl (hS.get 15 rfl)) rfl)) ?_
      refine .of (fun a w hS hI hp => ok_y (d := 47) hS rfl rfl rfl (((hp.get 2 (by rfl) rfl rfl)).trans (bF (decide_eq_false c10))) (does_val (x_move rfl (hS.get 14 rfl)) rfl)) ?_
      refine .of (fun a w hS hI hp => ok_y (d := 47) hS rfl rfl rfl (((hp.get 2 (by rfl) rfl rfl)).trans (bF (decide_eq_false c10))) (does_val (x_bin rfl ((hp.get 3 (by rfl) rfl rfl)) ((hp.get 4 (by rfl) rfl rfl)) (b_lss _ _ _ _ _ _)) rfl)) ?_
      refine .of (fun a w hS hI hp => ok_y (d := 47) hS rfl rfl rfl (((hp.get 2 (by rfl) rfl rfl)).trans (bF (decide_eq_false c10))) (does_val (x_move rfl ((hp.get 5 (by rfl) rfl rfl))) rfl)) ?_
      refine .of (fun a w hS hI hp => ok_y (d := 51) hS rfl rfl rfl (((hp.get 6 (by rfl) rfl rfl)).trans (bT (decide_eq_true c11))) (does_val (x_move rfl (hS.get 0 rfl)) rfl)) ?_
      refine .of (fun a w hS hI hp => ok_y (d := 51) hS rfl rfl rfl (((hp.get 6 (by rfl) rfl rfl)).trans (bT (decide_eq_true c11))) (does_val (x_bin rfl ((hp.get 7 (by rfl) rfl rfl)) (rfl) (b_eql _ _ _ _ _ _)) rfl)) ?_
      refine .of (fun a w hS hI hp => ok_y (d := 47) hS rfl rfl rfl (((hp.get 2 (by rfl) rfl rfl)).trans (bF (decide_eq_false c10))) (does_val (x_pickT rfl (((hp.get 6 (by rfl) rfl rfl)).trans (bT (decide_eq_true c11))) ((hp.get 8 (by rfl) rfl rfl))) rfl)) ?_
      refine .on rfl (fun a w hS hI hp => does_val (x_pickF rfl (((hp.get 2 (by rfl) rfl rfl)).trans (bF (decide_eq_false c10))) ((hp.get 9 (by rfl) rfl rfl))) rfl) ?_
      exact .nil
    clear hS
    intro at1011 w1012 hS hI hp
    have hBw1012_w := hI.1
    have hBw1012_wL1 := hI.2.1
    have hBw1012_w1009 := hI.2.2
    have hv45 : sl _ 45 = .int .i64 t1007 := hp 0 (by decide)
    have hv46 : sl _ 46 = .bool (decide (t1007 > 0)) := hp 1 (by decide)
    have hv47 : sl _ 47 = .bool (decide (t1007 > 0)) := hp 2 (by decide)
    have hv48 : sl _ 48 = .int .i64 x1_4 := hp 3 (by decide)
    have hv49 : sl _ 49 = .int .i64 x1_3 := hp 4 (by decide)
    have hv50 : sl _ 50 = .bool (decide (x1_4 < x1_3)) := hp 5 (by decide)
    have hv51 : sl _ 51 = .bool (decide (x1_4 < x1_3)) := hp 6 (by decide)
    have hv52 : sl _ 52 = .int .i64 t1007 := hp 7 (by decide)
    have hv53 : sl _ 53 = .bool (decide (t1007 = 0)) := hp 8 (by decide)
    have hv54 : sl _ 54 = .bool (decide (t1007 = 0)) := hp 9 (by decide)
    have hv55 : sl _ 55 = .bool (decide (t1007 = 0)) := hp 10 (by decide)
    have hBw1012_w1012 := Below.refl w1012.heap.size w1012
    have hS := hS.cons hv45
    have hS := hS.cons hv46
    have hS := hS.cons hv47
    have hS := hS.cons hv48
    have hS := hS.cons hv49
    have hS := hS.cons hv50
    have hS := hS.cons hv51
    have hS := hS.cons hv52
    have hS := hS.cons hv53
    have hS := hS.cons hv54
    have hS := hS.cons hv55
    clear hp hI hv45 hv46 hv47 hv48 hv49 hv50 hv51 hv52 hv53 hv54 hv55
    refine hK1010 _ _ ?_
    (try clear hK1010 K1010)
    refine wp_cond_false ((hS.get 0 rfl).trans (bF (decide_eq_false c12))) ?_
    refine wp_skip ?_
    refine hK1005 _ _ ?_
    (try clear hK1005 K1005)
    refine reg_seq_tail 2 (N := 57) (bs := [(55, .bool (decide (t1007 = 0))), (54, .bool (decide (t1007 = 0))), (53, .bool (decide (t1007 = 0))), (52, .int .i64 t1007), (51, .bool (decide (x1_4 < x1_3))), (50, .bool (decide (x1_4 < x1_3))), (49, .int .i64 x1_3), (48, .int .i64 x1_4), (47, .bool (decide (t1007 > 0))), (46, .bool (decide (t1007 > 0))), (45, .int .i64 t1007), (5, .int .i64 t1007), (44, .int .i64 t1007), (43, .agg #[.int .i64 ((rd_T26 y1_0 x1_4).f0), .int .i64 ((rd_T26 y1_0 x1_4).f1), .int .i64 ((rd_T26 y1_0 x1_4).f2)]), (41, .int .i64 x1_4), (40, .slice AL1_0 y1_0.length CL1_0), (39, .agg #[.int .i64 ((rd_T26 y1_0 x1_3).f0), .int .i64 ((rd_T26 y1_0 x1_3).f1), .int .i64 ((rd_T26 y1_0 x1_3).f2)]), (37, .int .i64 x1_3), (36, .slice AL1_0 y1_0.length CL1_0), (33, .bool (decide (x1_4 < (y1_0.length : Int)))), (32, .int .i64 (y1_0.length : Int)), (31, .slice AL1_0 y1_0.length CL1_0), (30, .int .i64 x1_4), (0, .slice AL1_0 y1_0.length CL1_0), (2, .bool x1_2), (3, .int .i64 x1_3), (4, .int .i64 x1_4)]) (I := fun x => Below w.heap.size w x ∧ Below wL1.heap.size wL1 x ∧ Below w1012.heap.size w1012 x) (ps := [IsV (.int .i64 x1_4), IsV (.int .i64 (wrap64 (x1_4 + 1)))]) (by kernel_rfl) ?_ ?_ rfl hS ⟨hBw1012_w, hBw1012_wL1, hBw1012_w1012⟩ ?_ ?_
    · exact fun x y hI hb => ⟨below_step hI.1 hb, below_step hI.2.1 hb, below_step hI.2.2 hb⟩
    · exact .v (.v (.nil))
    · refine .on rfl (fun a w hS hI hp => does_val (x_move rfl (hS.get 26 rfl)) rfl) ?_
      refine .on rfl (fun a w hS hI hp => does_val (x_bin rfl ((hp.get 0 (by rfl) rfl rfl)) (rfl) (b_add _ _ _ _ _)) rfl) ?_
      exact .nil
    clear hS
    intro at1013 w1014 hS hI hp
    have hBw1014_w := hI.1
    have hBw1014_wL1 := hI.2.1
    have hBw1014_w1012 := hI.2.2
    have hv34 : sl _ 34 = .int .i64 x1_4 := hp 0 (by decide)
    have hv35 : sl _ 35 = .int .i64 (wrap64 (x1_4 + 1)) := hp 1 (by decide)
    have hBw1014_w1014 := Below.refl w1014.heap.size w1014
    have hS := hS.cons hv34
    have hS := hS.cons hv35
    clear hp hI hv34 hv35
    show wpList _ _ _ [_] _ _
    refine list_step rfl (R := fun v w' => Below _ _ w' ∧ (IsV (.int .i64 (wrap64 (x1_4 + 1)))) v w') (does_val (x_assign rfl (hS.get 0 rfl)) rfl) ?_
    rintro vw1015 w1015 ⟨hb, he⟩
    have hBw1015_w := below_step hBw1014_w hb
    have hBw1015_wL1 := below_step hBw1014_wL1 hb
    have hBw1015_w1014 := below_step hBw1014_w1014 hb
    have hBw1015_w1015 := Below.refl w1015.heap.size w1015
    obtain rfl : vw1015 = .int .i64 (wrap64 (x1_4 + 1)) := he
    replace hS := ((((((((((((((((((((((((((((hS.nil).cons (hS.get 27 rfl)).cons (hS.get 26 rfl)).cons (hS.get 25 rfl)).cons (hS.get 24 rfl)).cons (hS.get 23 rfl)).cons (hS.get 22 rfl)).cons (hS.get 21 rfl)).cons (hS.get 20 rfl)).cons (hS.get 19 rfl)).cons (hS.get 18 rfl)).cons (hS.get 17 rfl)).cons (hS.get 16 rfl)).cons (hS.get 15 rfl)).cons (hS.get 14 rfl)).cons (hS.get 13 rfl)).cons (hS.get 12 rfl)).cons (hS.get 11 rfl)).cons (hS.get 10 rfl)).cons (hS.get 9 rfl)).cons (hS.get 8 rfl)).cons (hS.get 7 rfl)).cons (hS.get 6 rfl)).cons (hS.get 5 rfl)).cons (hS.get 4 rfl)).cons (hS.get 3 rfl)).cons (hS.get 2 rfl)).cons (hS.get 1 rfl)).cons (hS.get 0 rfl)
    refine hS.next (v := .int .i64 (wrap64 (x1_4 + 1))) (d := 4) rfl (by decide) (by rfl) ?_
    clear hS
    intro at1016 hS
    refine wpList_nil ?_
    replace hS := ((((hS.nil).cons (hS.get 0 rfl)).cons (hS.get 28 rfl)).cons (hS.get 27 rfl)).cons (hS.get 26 rfl)
    (try simp only [Exit.then, Exit.inBlock])
    exact ⟨n1, Nat.lt_succ_self _, y1_0, AL1_0, CL1_0, x1_2, x1_3, wrap64 (x1_4 + 1), H, hS, hBw1015_w, hr1_0, (Kd.C_below hcL1_0 hBw1015_wL1)⟩
  rw [if_pos c1] at H
  by_cases c2 : 40 ≤ (l0.length : Int)
  rotate_left
  · rw [if_neg c2] at H
    exact absurd H (by simp)
  rw [if_pos c2] at H
  by_cases c3 : (l0.take (40 : Int).toNat).length * 24 ≤ 140737488355328
  rotate_left
  · rw [if_neg c3] at H
    exact absurd H (by simp)
  rw [if_pos c3] at H
  obtain ⟨t13, At13, H⟩ := Option.bind_eq_some_iff.mp H
  by_cases c4 : ((l0.take (40 : Int).toNat).length : Int) = 0
  · rw [if_pos c4] at H
    by_cases c5 : t13 = (-1)
    rotate_left
    · rw [if_neg c5] at H
      exact absurd H (by simp)
    rw [if_pos c5] at H
    obtain ⟨t21, At21, H⟩ := Option.bind_eq_some_iff.mp H
    have hret := Option.some.inj H
    clear H
    refine calls_of_wp (fn := Try.f5) (by kernel_rfl) rfl ?_
    have hS := St.enter #[.slice A0 l0.length c0] 57 (by simp) [(0, .slice A0 l0.length c0)] (by simp)
    have HB0 := Below.refl w.heap.size w
    refine wp_seq_k (fun K1 hK1 => ?_)
    refine reg_seq (N := 57) (bs := [(0, .slice A0 l0.length c0)]) (I := fun x => Below w.heap.size w x) (ps := [IsV (.bool false)]) (by kernel_rfl) ?_ ?_ rfl hS HB0 ?_ ?_
    · exact fun x y hI hb => below_step hI hb
    · exact .v (.nil)
    · refine .on rfl (fun a w hS hI hp => does_val (x_assign rfl (rfl)) rfl) ?_
      exact .nil
    clear hS
    intro at2 w3 hS hI hp
    have hBw3_w := hI
    have hv2 : sl _ 2 = .bool false := hp 0 (by decide)
    have hBw3_w3 := Below.refl w3.heap.size w3
    have hS := hS.cons hv2
    clear hp hI hv2
    refine hK1 _ _ ?_
    (try clear hK1 K1)
    refine wp_seq_k (fun K4 hK4 => ?_)
    refine wp_seq_k (fun K5 hK5 => ?_)
    refine reg_seq (N := 57) (bs := [(2, .bool false), (0, .slice A0 l0.length c0)]) (I := fun x => Below w.heap.size w x ∧ Below w3.heap.size w3 x) (ps := [IsV (.slice A0 l0.length c0), IsV (.int .i64 (l0.length : Int)), IsV (.bool (decide ((l0.length : Int) > 40)))]) (by kernel_rfl) ?_ ?_ rfl hS ⟨hBw3_w, hBw3_w3⟩ ?_ ?_
    · exact fun x y hI hb => ⟨below_step hI.1 hb, below_step hI.2 hb⟩
    · exact .v (.v (.v (.nil)))
    · refine .on rfl (fun a w hS hI hp => does_val (x_move rfl (hS.get 1 rfl)) rfl) ?_
      refine .on rfl (fun a w hS hI hp => does_val (x_len (e := 26) rfl (by kernel_rfl) ((hp.get 0 (by rfl) rfl rfl))) rfl) ?_
      refine .on rfl (fun a w hS hI hp => does_val (x_bin rfl ((hp.get 1 (by rfl) rfl rfl)) (rfl) (b_gtr _ _ _ _ _ _)) rfl) ?_
      exact .nil
    clear hS
    intro at6 w7 hS hI hp
    have hBw7_w := hI.1
    have hBw7_w3 := hI.2
    have hv8 : sl _ 8 = .bool (decide ((l0.length : Int) > 40)) := hp 2 (by decide)
    have hBw7_w7 := Below.refl w7.heap.size w7
    have hS := hS.cons hv8
    clear hp hI hv8
    refine hK5 _ _ ?_
    (try clear hK5 K5)
    refine wp_cond_true ((hS.get 0 rfl).trans (bT (decide_eq_true c1))) ?_
    refine reg_seq_tail 2 (N := 57) (bs := [(8, .bool (decide ((l0.length : Int) > 40))), (2, .bool false), (0, .slice A0 l0.length c0)]) (I := fun x => Below w.heap.size w x ∧ Below w7.heap.size w7 x) (ps := [IsV (.slice A0 l0.length c0), IsV (.slice A0 ((l0.take (40 : Int).toNat).length) c0)]) (by kernel_rfl) ?_ ?_ rfl hS ⟨hBw7_w, hBw7_w7⟩ ?_ ?_
    · exact fun x y hI hb => ⟨below_step hI.1 hb, below_step hI.2 hb⟩
    · exact .v (.v (.nil))
    · refine .on rfl (fun a w hS hI hp => does_val (x_move rfl (hS.get 2 rfl)) rfl) ?_
      refine .on rfl (fun a w hS hI hp => does_val (x_cuthi rfl (e := 26) (xs := l0) (by kernel_rfl) (by kernel_rfl) ((hp.get 0 (by rfl) rfl rfl)) (rfl) (by decide) c2 HC0) rfl) ?_
      exact .nil
    clear hS
    intro at8 w9 hS hI hp
    have hBw9_w := hI.1
    have hBw9_w7 := hI.2
    have hv10 : sl _ 10 = .slice A0 ((l0.take (40 : Int).toNat).length) c0 := hp 1 (by decide)
    have hBw9_w9 := Below.refl w9.heap.size w9
    have hS := hS.cons hv10
    clear hp hI hv10
    show wpList _ _ _ [_] _ _
    refine list_step rfl (R := fun v w' => Below _ _ w' ∧ (IsV (.slice A0 ((l0.take (40 : Int).toNat).length) c0)) v w') (does_val (x_assign rfl (hS.get 0 rfl)) rfl) ?_
    rintro vw10 w10 ⟨hb, he⟩
    have hBw10_w := below_step hBw9_w hb
    have hBw10_w9 := below_step hBw9_w9 hb
    have hBw10_w10 := Below.refl w10.heap.size w10
    obtain rfl : vw10 = .slice A0 ((l0.take (40 : Int).toNat).length) c0 := he
    replace hS := (((hS.nil).cons (hS.get 2 rfl)).cons (hS.get 1 rfl)).cons (hS.get 0 rfl)
    refine hS.next (v := .slice A0 ((l0.take (40 : Int).toNat).length) c0) (d := 0) rfl (by decide) (by rfl) ?_
    clear hS
    intro at11 hS
    refine wpList_nil ?_
    refine hK4 _ _ ?_
    (try clear hK4 K4)
    refine wp_seq_k (fun K12 hK12 => ?_)
    refine reg_seq (N := 57) (bs := [(0, .slice A0 ((l0.take (40 : Int).toNat).length) c0), (10, .slice A0 ((l0.take (40 : Int).toNat).length) c0), (8, .bool (decide ((l0.length : Int) > 40))), (2, .bool false)]) (I := fun x => Below w.heap.size w x ∧ Below w10.heap.size w10 x) (ps := [IsV (.slice A0 ((l0.take (40 : Int).toNat).length) c0), IsR k26 26 w10.heap.size (l0.take (40 : Int).toNat), IsV (.int .i64 t13), IsV (.int .i64 t13)]) (by kernel_rfl) ?_ ?_ rfl hS ⟨hBw10_w, hBw10_w10⟩ ?_ ?_
    · exact fun x y hI hb => ⟨below_step hI.1 hb, below_step hI.2 hb⟩
    · exact .v (.cons (Stays.r _ _ _ _) (.v (.v (.nil))))
    · refine .on rfl (fun a w hS hI hp => does_val (x_move rfl (hS.get 0 rfl)) rfl) ?_
      refine .on rfl (fun a w hS hI hp => does_copyT carillonlaw05_QualityFirst.flat26 w10.heap.size _ (.tmp 11) 22 26 (.agg #[(.int .i64 0), (.int .i64 0), (.int .i64 0)]) 24 rfl (by kernel_rfl) (by kernel_rfl) rfl (by decide) (by decide) (l0.take (40 : Int).toNat) _ _ _ (rfl) ((hp.get 0 (by rfl) rfl rfl)) ((Kd.C_take (m := (40 : Int).toNat) (Kd.C_below HR0 hI.1) (by have := c2; omega))) (hI.2).size c3) ?_
      refine .on rfl (fun a w hS hI hp => (IsC.of_r ((hp.get 1 (by rfl) rfl rfl))).elim fun A_ h_ => h_.elim fun c_ h_ => h_.elim fun hv_ h_ => h_.elim fun hl_ hc_ => does_call (by kernel_rfl) (ar1 (hv_)) ((quality_Best.calls k _ _ (l0.take (40 : Int).toNat) t13 _ hc_ hl_ At13).mono fun _ _ h => ⟨_, h.1, h.2, rfl⟩)) ?_
      refine .on rfl (fun a w hS hI hp => does_val (x_assign rfl ((hp.get 2 (by rfl) rfl rfl))) rfl) ?_
      exact .nil
    clear hS
    intro at14 w15 hS hI hp
    have hBw15_w := hI.1
    have hBw15_w10 := hI.2
    replace hS := (((hS.nil).cons (hS.get 3 rfl)).cons (hS.get 2 rfl)).cons (hS.get 0 rfl)
    have hv3 : sl _ 3 = .int .i64 t13 := hp 3 (by decide)
    have hBw15_w15 := Below.refl w15.heap.size w15
    have hS := hS.cons hv3
    clear hp hI hv3
    refine hK12 _ _ ?_
    (try clear hK12 K12)
    refine wp_seq_k (fun K16 hK16 => ?_)
    refine wp_seq_k (fun K17 hK17 => ?_)
    refine reg_seq (N := 57) (bs := [(3, .int .i64 t13), (0, .slice A0 ((l0.take (40 : Int).toNat).length) c0), (8, .bool (decide ((l0.length : Int) > 40))), (2, .bool false)]) (I := fun x => Below w.heap.size w x ∧ Below w15.heap.size w15 x) (ps := [IsV (.slice A0 ((l0.take (40 : Int).toNat).length) c0), IsV (.int .i64 ((l0.take (40 : Int).toNat).length : Int)), IsV (.bool (decide (((l0.take (40 : Int).toNat).length : Int) = 0)))]) (by kernel_rfl) ?_ ?_ rfl hS ⟨hBw15_w, hBw15_w15⟩ ?_ ?_
    · exact fun x y hI hb => ⟨below_step hI.1 hb, below_step hI.2 hb⟩
    · exact .v (.v (.v (.nil)))
    · refine .on rfl (fun a w hS hI hp => does_val (x_move rfl (hS.get 1 rfl)) rfl) ?_
      refine .on rfl (fun a w hS hI hp => does_val (x_len (e := 26) rfl (by kernel_rfl) ((hp.get 0 (by rfl) rfl rfl))) rfl) ?_
      refine .on rfl (fun a w hS hI hp => does_val (x_bin rfl ((hp.get 1 (by rfl) rfl rfl)) (rfl) (b_eql _ _ _ _ _ _)) rfl) ?_
      exact .nil
    clear hS
    intro at18 w19 hS hI hp
    have hBw19_w := hI.1
    have hBw19_w15 := hI.2
    have hv16 : sl _ 16 = .bool (decide (((l0.take (40 : Int).toNat).length : Int) = 0)) := hp 2 (by decide)
    have hBw19_w19 := Below.refl w19.heap.size w19
    have hS := hS.cons hv16
    clear hp hI hv16
    refine hK17 _ _ ?_
    (try clear hK17 K17)
    refine wp_cond_true ((hS.get 0 rfl).trans (bT (decide_eq_true c4))) ?_
    refine wp_seq_k (fun K20 hK20 => ?_)
    replace hS := ((((hS.nil).cons (hS.get 3 rfl)).cons (hS.get 2 rfl)).cons (hS.get 1 rfl)).cons (hS.get 0 rfl)
    refine reg_seq (N := 57) (bs := [(16, .bool (decide (((l0.take (40 : Int).toNat).length : Int) = 0))), (3, .int .i64 t13), (0, .slice A0 ((l0.take (40 : Int).toNat).length) c0), (8, .bool (decide ((l0.length : Int) > 40)))]) (I := fun x => Below w.heap.size w x ∧ Below w19.heap.size w19 x) (ps := [IsV (.int .i64 t13), IsV (.bool (decide (t13 = (-1)))), IsV (.bool (decide (t13 = (-1)))), IsV (.bool t21), IsV (.bool t21), IsV (.bool t21)]) (by kernel_rfl) ?_ ?_ rfl hS ⟨hBw19_w, hBw19_w19⟩ ?_ ?_
    · exact fun x y hI hb => ⟨below_step hI.1 hb, below_step hI.2 hb⟩
    · exact .v (.v (.v (.v (.v (.v (.nil))))))
    · refine .on rfl (fun a w hS hI hp => does_val (x_move rfl (hS.get 1 rfl)) rfl) ?_
      refine .on rfl (fun a w hS hI hp => does_val (x_bin rfl ((hp.get 0 (by rfl) rfl rfl)) (rfl) (b_eql _ _ _ _ _ _)) rfl) ?_
      refine .on rfl (fun a w hS hI hp => does_val (x_move rfl ((hp.get 1 (by rfl) rfl rfl))) rfl) ?_
      refine .of (fun a w hS hI hp => ok_y (d := 19) hS rfl rfl rfl (((hp.get 2 (by rfl) rfl rfl)).trans (bT (decide_eq_true c5))) (does_call (by kernel_rfl) rfl ((carillonlaw05_awake.calls k  t21 _  At21).mono fun _ _ h => ⟨_, h.1, h.2, rfl⟩))) ?_
      refine .on rfl (fun a w hS hI hp => does_val (x_pickT rfl (((hp.get 2 (by rfl) rfl rfl)).trans (bT (decide_eq_true c5))) ((hp.get 3 (by rfl) rfl rfl))) rfl) ?_
      refine .on rfl (fun a w hS hI hp => does_val (x_assign rfl ((hp.get 4 (by rfl) rfl rfl))) rfl) ?_
      exact .nil
    clear hS
    intro at22 w23 hS hI hp
    have hBw23_w := hI.1
    have hBw23_w19 := hI.2
    have hv2 : sl _ 2 = .bool t21 := hp 5 (by decide)
    have hBw23_w23 := Below.refl w23.heap.size w23
    have hS := hS.cons hv2
    clear hp hI hv2
    refine hK20 _ _ ?_
    (try clear hK20 K20)
    refine wp_ret ?_
    (try simp only [Exit.then, Exit.inBlock])
    exact bodyPost_ret (v := .bool true) (by rw [results_tmp rfl]; exact congrArg (Result.ok · _) ((hS.get 0 rfl).trans (congrArg Value.bool hret))) hS.nodef ⟨rfl, hBw23_w⟩
  rw [if_neg c4] at H
  by_cases c5 : t13 < 0
  · rw [if_pos c5] at H
    exact absurd H (by simp)
  rw [if_neg c5] at H
  by_cases c6 : t13 ≥ ((l0.take (40 : Int).toNat).length : Int)
  · rw [if_pos c6] at H
    exact absurd H (by simp)
  rw [if_neg c6] at H
  refine calls_of_wp (fn := Try.f5) (by kernel_rfl) rfl ?_
  have hS := St.enter #[.slice A0 l0.length c0] 57 (by simp) [(0, .slice A0 l0.length c0)] (by simp)
  have HB0 := Below.refl w.heap.size w
  refine wp_seq_k (fun K1 hK1 => ?_)
  refine reg_seq (N := 57) (bs := [(0, .slice A0 l0.length c0)]) (I := fun x => Below w.heap.size w x) (ps := [IsV (.bool false)]) (by kernel_rfl) ?_ ?_ rfl hS HB0 ?_ ?_
  · exact fun x y hI hb => below_step hI hb
  · exact .v (.nil)
  · refine .on rfl (fun a w hS hI hp => does_val (x_assign rfl (rfl)) rfl) ?_
    exact .nil
  clear hS
  intro at2 w3 hS hI hp
  have hBw3_w := hI
  have hv2 : sl _ 2 = .bool false := hp 0 (by decide)
  have hBw3_w3 := Below.refl w3.heap.size w3
  have hS := hS.cons hv2
  clear hp hI hv2
  refine hK1 _ _ ?_
  (try clear hK1 K1)
  refine wp_seq_k (fun K4 hK4 => ?_)
  refine wp_seq_k (fun K5 hK5 => ?_)
  refine reg_seq (N := 57) (bs := [(2, .bool false), (0, .slice A0 l0.length c0)]) (I := fun x => Below w.heap.size w x ∧ Below w3.heap.size w3 x) (ps := [IsV (.slice A0 l0.length c0), IsV (.int .i64 (l0.length : Int)), IsV (.bool (decide ((l0.length : Int) > 40)))]) (by kernel_rfl) ?_ ?_ rfl hS ⟨hBw3_w, hBw3_w3⟩ ?_ ?_
  · exact fun x y hI hb => ⟨below_step hI.1 hb, below_step hI.2 hb⟩
  · exact .v (.v (.v (.nil)))
  · refine .on rfl (fun a w hS hI hp => does_val (x_move rfl (hS.get 1 rfl)) rfl) ?_
    refine .on rfl (fun a w hS hI hp => does_val (x_len (e := 26) rfl (by kernel_rfl) ((hp.get 0 (by rfl) rfl rfl))) rfl) ?_
    refine .on rfl (fun a w hS hI hp => does_val (x_bin rfl ((hp.get 1 (by rfl) rfl rfl)) (rfl) (b_gtr _ _ _ _ _ _)) rfl) ?_
    exact .nil
  clear hS
  intro at6 w7 hS hI hp
  have hBw7_w := hI.1
  have hBw7_w3 := hI.2
  have hv8 : sl _ 8 = .bool (decide ((l0.length : Int) > 40)) := hp 2 (by decide)
  have hBw7_w7 := Below.refl w7.heap.size w7
  have hS := hS.cons hv8
  clear hp hI hv8
  refine hK5 _ _ ?_
  (try clear hK5 K5)
  refine wp_cond_true ((hS.get 0 rfl).trans (bT (decide_eq_true c1))) ?_
  refine reg_seq_tail 2 (N := 57) (bs := [(8, .bool (decide ((l0.length : Int) > 40))), (2, .bool false), (0, .slice A0 l0.length c0)]) (I := fun x => Below w.heap.size w x ∧ Below w7.heap.size w7 x) (ps := [IsV (.slice A0 l0.length c0), IsV (.slice A0 ((l0.take (40 : Int).toNat).length) c0)]) (by kernel_rfl) ?_ ?_ rfl hS ⟨hBw7_w, hBw7_w7⟩ ?_ ?_
  · exact fun x y hI hb => ⟨below_step hI.1 hb, below_step hI.2 hb⟩
  · exact .v (.v (.nil))
  · refine .on rfl (fun a w hS hI hp => does_val (x_move rfl (hS.get 2 rfl)) rfl) ?_
    refine .on rfl (fun a w hS hI hp => does_val (x_cuthi rfl (e := 26) (xs := l0) (by kernel_rfl) (by kernel_rfl) ((hp.get 0 (by rfl) rfl rfl)) (rfl) (by decide) c2 HC0) rfl) ?_
    exact .nil
  clear hS
  intro at8 w9 hS hI hp
  have hBw9_w := hI.1
  have hBw9_w7 := hI.2
  have hv10 : sl _ 10 = .slice A0 ((l0.take (40 : Int).toNat).length) c0 := hp 1 (by decide)
  have hBw9_w9 := Below.refl w9.heap.size w9
  have hS := hS.cons hv10
  clear hp hI hv10
  show wpList _ _ _ [_] _ _
  refine list_step rfl (R := fun v w' => Below _ _ w' ∧ (IsV (.slice A0 ((l0.take (40 : Int).toNat).length) c0)) v w') (does_val (x_assign rfl (hS.get 0 rfl)) rfl) ?_
  rintro vw10 w10 ⟨hb, he⟩
  have hBw10_w := below_step hBw9_w hb
  have hBw10_w9 := below_step hBw9_w9 hb
  have hBw10_w10 := Below.refl w10.heap.size w10
  obtain rfl : vw10 = .slice A0 ((l0.take (40 : Int).toNat).length) c0 := he
  replace hS := (((hS.nil).cons (hS.get 2 rfl)).cons (hS.get 1 rfl)).cons (hS.get 0 rfl)
  refine hS.next (v := .slice A0 ((l0.take (40 : Int).toNat).length) c0) (d := 0) rfl (by decide) (by rfl) ?_
  clear hS
  intro at11 hS
  refine wpList_nil ?_
  refine hK4 _ _ ?_
  (try clear hK4 K4)
  refine wp_seq_k (fun K12 hK12 => ?_)
  refine reg_seq (N := 57) (bs := [(0, .slice A0 ((l0.take (40 : Int).toNat).length) c0), (10, .slice A0 ((l0.take (40 : Int).toNat).length) c0), (8, .bool (decide ((l0.length : Int) > 40))), (2, .bool false)]) (I := fun x => Below w.heap.size w x ∧ Below w10.heap.size w10 x) (ps := [IsV (.slice A0 ((l0.take (40 : Int).toNat).length) c0), IsR k26 26 w10.heap.size (l0.take (40 : Int).toNat), IsV (.int .i64 t13), IsV (.int .i64 t13)]) (by kernel_rfl) ?_ ?_ rfl hS ⟨hBw10_w, hBw10_w10⟩ ?_ ?_
  · exact fun x y hI hb => ⟨below_step hI.1 hb, below_step hI.2 hb⟩
  · exact .v (.cons (Stays.r _ _ _ _) (.v (.v (.nil))))
  · refine .on rfl (fun a w hS hI hp => does_val (x_move rfl (hS.get 0 rfl)) rfl) ?_
    refine .on rfl (fun a w hS hI hp => does_copyT carillonlaw05_QualityFirst.flat26 w10.heap.size _ (.tmp 11) 22 26 (.agg #[(.int .i64 0), (.int .i64 0), (.int .i64 0)]) 24 rfl (by kernel_rfl) (by kernel_rfl) rfl (by decide) (by decide) (l0.take (40 : Int).toNat) _ _ _ (rfl) ((hp.get 0 (by rfl) rfl rfl)) ((Kd.C_take (m := (40 : Int).toNat) (Kd.C_below HR0 hI.1) (by have := c2; omega))) (hI.2).size c3) ?_
    refine .on rfl (fun a w hS hI hp => (IsC.of_r ((hp.get 1 (by rfl) rfl rfl))).elim fun A_ h_ => h_.elim fun c_ h_ => h_.elim fun hv_ h_ => h_.elim fun hl_ hc_ => does_call (by kernel_rfl) (ar1 (hv_)) ((quality_Best.calls k _ _ (l0.take (40 : Int).toNat) t13 _ hc_ hl_ At13).mono fun _ _ h => ⟨_, h.1, h.2, rfl⟩)) ?_
    refine .on rfl (fun a w hS hI hp => does_val (x_assign rfl ((hp.get 2 (by rfl) rfl rfl))) rfl) ?_
    exact .nil
  clear hS
  intro at14 w15 hS hI hp
  have hBw15_w := hI.1
  have hBw15_w10 := hI.2
  replace hS := (((hS.nil).cons (hS.get 3 rfl)).cons (hS.get 2 rfl)).cons (hS.get 0 rfl)
  have hv3 : sl _ 3 = .int .i64 t13 := hp 3 (by decide)
  have hBw15_w15 := Below.refl w15.heap.size w15
  have hS := hS.cons hv3
  clear hp hI hv3
  refine hK12 _ _ ?_
  (try clear hK12 K12)
  refine wp_seq_k (fun K16 hK16 => ?_)
  refine wp_seq_k (fun K17 hK17 => ?_)
  refine reg_seq (N := 57) (bs := [(3, .int .i64 t13), (0, .slice A0 ((l0.take (40 : Int).toNat).length) c0), (8, .bool (decide ((l0.length : Int) > 40))), (2, .bool false)]) (I := fun x => Below w.heap.size w x ∧ Below w15.heap.size w15 x) (ps := [IsV (.slice A0 ((l0.take (40 : Int).toNat).length) c0), IsV (.int .i64 ((l0.take (40 : Int).toNat).length : Int)), IsV (.bool (decide (((l0.take (40 : Int).toNat).length : Int) = 0)))]) (by kernel_rfl) ?_ ?_ rfl hS ⟨hBw15_w, hBw15_w15⟩ ?_ ?_
  · exact fun x y hI hb => ⟨below_step hI.1 hb, below_step hI.2 hb⟩
  · exact .v (.v (.v (.nil)))
  · refine .on rfl (fun a w hS hI hp => does_val (x_move rfl (hS.get 1 rfl)) rfl) ?_
    refine .on rfl (fun a w hS hI hp => does_val (x_len (e := 26) rfl (by kernel_rfl) ((hp.get 0 (by rfl) rfl rfl))) rfl) ?_
    refine .on rfl (fun a w hS hI hp => does_val (x_bin rfl ((hp.get 1 (by rfl) rfl rfl)) (rfl) (b_eql _ _ _ _ _ _)) rfl) ?_
    exact .nil
  clear hS
  intro at18 w19 hS hI hp
  have hBw19_w := hI.1
  have hBw19_w15 := hI.2
  have hv16 : sl _ 16 = .bool (decide (((l0.take (40 : Int).toNat).length : Int) = 0)) := hp 2 (by decide)
  have hBw19_w19 := Below.refl w19.heap.size w19
  have hS := hS.cons hv16
  clear hp hI hv16
  refine hK17 _ _ ?_
  (try clear hK17 K17)
  refine wp_cond_false ((hS.get 0 rfl).trans (bF (decide_eq_false c4))) ?_
  refine wp_skip ?_
  refine hK16 _ _ ?_
  (try clear hK16 K16)
  refine wp_seq_k (fun K20 hK20 => ?_)
  refine wp_seq_k (fun K21 hK21 => ?_)
  refine reg_seq (N := 57) (bs := [(16, .bool (decide (((l0.take (40 : Int).toNat).length : Int) = 0))), (3, .int .i64 t13), (0, .slice A0 ((l0.take (40 : Int).toNat).length) c0), (8, .bool (decide ((l0.length : Int) > 40))), (2, .bool false)]) (I := fun x => Below w.heap.size w x ∧ Below w19.heap.size w19 x) (ps := [IsV (.int .i64 t13), IsV (.bool (decide (t13 < 0))), IsV (.bool (decide (t13 < 0))), IsV (.int .i64 t13), IsV (.slice A0 ((l0.take (40 : Int).toNat).length) c0), IsV (.int .i64 ((l0.take (40 : Int).toNat).length : Int)), IsV (.bool (decide (t13 ≥ ((l0.take (40 : Int).toNat).length : Int)))), IsV (.bool (decide (t13 ≥ ((l0.take (40 : Int).toNat).length : Int))))]) (by kernel_rfl) ?_ ?_ rfl hS ⟨hBw19_w, hBw19_w19⟩ ?_ ?_
  · exact fun x y hI hb => ⟨below_step hI.1 hb, below_step hI.2 hb⟩
  · exact .v (.v (.v (.v (.v (.v (.v (.v (.nil))))))))
  · refine .on rfl (fun a w hS hI hp => does_val (x_move rfl (hS.get 1 rfl)) rfl) ?_
    refine .on rfl (fun a w hS hI hp => does_val (x_bin rfl ((hp.get 0 (by rfl) rfl rfl)) (rfl) (b_lss _ _ _ _ _ _)) rfl) ?_
    refine .on rfl (fun a w hS hI hp => does_val (x_move rfl ((hp.get 1 (by rfl) rfl rfl))) rfl) ?_
    refine .of (fun a w hS hI hp => ok_y (d := 24) hS rfl rfl rfl (((hp.get 2 (by rfl) rfl rfl)).trans (bF (decide_eq_false c5))) (does_val (x_move rfl (hS.get 1 rfl)) rfl)) ?_
    refine .of (fun a w hS hI hp => ok_y (d := 24) hS rfl rfl rfl (((hp.get 2 (by rfl) rfl rfl)).trans (bF (decide_eq_false c5))) (does_val (x_move rfl (hS.get 2 rfl)) rfl)) ?_
    refine .of (fun a w hS hI hp => ok_y (d := 24) hS rfl rfl rfl (((hp.get 2 (by rfl) rfl rfl)).trans (bF (decide_eq_false c5))) (does_val (x_len (e := 26) rfl (by kernel_rfl) ((hp.get 4 (by rfl) rfl rfl))) rfl)) ?_
    refine .of (fun a w hS hI hp => ok_y (d := 24) hS rfl rfl rfl (((hp.get 2 (by rfl) rfl rfl)).trans (bF (decide_eq_false c5))) (does_val (x_bin rfl ((hp.get 3 (by rfl) rfl rfl)) ((hp.get 5 (by rfl) rfl rfl)) (b_geq _ _ _ _ _ _)) rfl)) ?_
    refine .on rfl (fun a w hS hI hp => does_val (x_pickF rfl (((hp.get 2 (by rfl) rfl rfl)).trans (bF (decide_eq_false c5))) ((hp.get 6 (by rfl) rfl rfl))) rfl) ?_
    exact .nil
  clear hS
  intro at22 w23 hS hI hp
  have hBw23_w := hI.1
  have hBw23_w19 := hI.2
  have hv29 : sl _ 29 = .bool (decide (t13 ≥ ((l0.take (40 : Int).toNat).length : Int))) := hp 7 (by decide)
  have hBw23_w23 := Below.refl w23.heap.size w23
  have hS := hS.cons hv29
  clear hp hI hv29
  refine hK21 _ _ ?_
  (try clear hK21 K21)
  refine wp_cond_false ((hS.get 0 rfl).trans (bF (decide_eq_false c6))) ?_
  refine wp_skip ?_
  refine hK20 _ _ ?_
  (try clear hK20 K20)
  refine wp_seq_k (fun K24 hK24 => ?_)
  refine wp_seq_k (fun K25 hK25 => ?_)
  refine reg_seq (N := 57) (bs := [(29, .bool (decide (t13 ≥ ((l0.take (40 : Int).toNat).length : Int)))), (16, .bool (decide (((l0.take (40 : Int).toNat).length : Int) = 0))), (3, .int .i64 t13), (0, .slice A0 ((l0.take (40 : Int).toNat).length) c0), (8, .bool (decide ((l0.length : Int) > 40))), (2, .bool false)]) (I := fun x => Below w.heap.size w x ∧ Below w23.heap.size w23 x) (ps := [IsV (.int .i64 0)]) (by kernel_rfl) ?_ ?_ rfl hS ⟨hBw23_w, hBw23_w23⟩ ?_ ?_
  · exact fun x y hI hb => ⟨below_step hI.1 hb, below_step hI.2 hb⟩
  · exact .v (.nil)
  · refine .on rfl (fun a w hS hI hp => does_val (x_assign rfl (rfl)) rfl) ?_
    exact .nil
  clear hS
  intro at26 w27 hS hI hp
  have hBw27_w := hI.1
  have hBw27_w23 := hI.2
  have hv4 : sl _ 4 = .int .i64 0 := hp 0 (by decide)
  have hBw27_w27 := Below.refl w27.heap.size w27
  have hS := hS.cons hv4
  clear hp hI hv4
  refine hK25 _ _ ?_
  (try clear hK25 K25)
  refine wp_block ?_
  replace hS := ((((hS.nil).cons (hS.get 0 rfl)).cons (hS.get 3 rfl)).cons (hS.get 6 rfl)).cons (hS.get 4 rfl)
  refine wp_loop_ghost (fun n_ a_ wL1 => ∃ (y1_0 : List (S26)) (AL1_0 : Option Addr) (CL1_0 : Nat) (x1_2 : Bool) (x1_3 : Int) (x1_4 : Int), carillonlaw05_QualityFirst.l1 k n_ y1_0 x1_2 x1_3 x1_4 = some true ∧ St 57 [(0, .slice AL1_0 y1_0.length CL1_0), (2, .bool x1_2), (3, .int .i64 x1_3), (4, .int .i64 x1_4)] a_ ∧ Below w.heap.size w wL1 ∧ y1_0.length ≤ CL1_0 ∧ Kd.C k26 wL1 AL1_0 y1_0.length y1_0) k ⟨l0.take (40 : Int).toNat, A0, c0, false, t13, 0, H, hS, hBw27_w, (Nat.le_trans (List.length_take_le' _ _) HC0), (Kd.C_take (m := (40 : Int).toNat) (Kd.C_below HR0 hBw27_w) (by have := c2; omega))⟩ ?_
  clear H hS
  rintro n1 aL1 wL1 ⟨y1_0, AL1_0, CL1_0, x1_2, x1_3, x1_4, H, hS, hBwL1_w, hr1_0, hcL1_0⟩
  rcases n1 with _ | n1
  · exact absurd H (by simp [carillonlaw05_QualityFirst.l1])
  rw [carillonlaw05_QualityFirst.l1] at H
  (try dsimp only at H)
  by_cases c7 : x1_4 < (y1_0.length : Int)
  rotate_left
  · rw [if_neg c7] at H
    obtain ⟨t1006, At1006, H⟩ := Option.bind_eq_some_iff.mp H
    have hret := Option.some.inj H
    clear H
    have hBwL1_wL1 := Below.refl wL1.heap.size wL1
    refine wp_seq_k (fun K1001 hK1001 => ?_)
    refine wp_seq_k (fun K1002 hK1002 => ?_)
    refine reg_seq (N := 57) (bs := [(0, .slice AL1_0 y1_0.length CL1_0), (2, .bool x1_2), (3, .int .i64 x1_3), (4, .int .i64 x1_4)]) (I := fun x => Below w.heap.size w x ∧ Below wL1.heap.size wL1 x) (ps := [IsV (.int .i64 x1_4), IsV (.slice AL1_0 y1_0.length CL1_0), IsV (.int .i64 (y1_0.length : Int)), IsV (.bool (decide (x1_4 < (y1_0.length : Int))))]) (by kernel_rfl) ?_ ?_ rfl hS ⟨hBwL1_w, hBwL1_wL1⟩ ?_ ?_
    · exact fun x y hI hb => ⟨below_step hI.1 hb, below_step hI.2 hb⟩
    · exact .v (.v (.v (.v (.nil))))
    · refine .on rfl (fun a w hS hI hp => does_val (x_move rfl (hS.get 3 rfl)) rfl) ?_
      refine .on rfl (fun a w hS hI hp => does_val (x_move rfl (hS.get 0 rfl)) rfl) ?_
      refine .on rfl (fun a w hS hI hp => does_val (x_len (e := 26) rfl (by kernel_rfl) ((hp.get 1 (by rfl) rfl rfl))) rfl) ?_
      refine .on rfl (fun a w hS hI hp => does_val (x_bin rfl ((hp.get 0 (by rfl) rfl rfl)) ((hp.get 2 (by rfl) rfl rfl)) (b_lss _ _ _ _ _ _)) rfl) ?_
      exact .nil
    clear hS
    intro at1003 w1004 hS hI hp
    have hBw1004_w := hI.1
    have hBw1004_wL1 := hI.2
    have hv30 : sl _ 30 = .int .i64 x1_4 := hp 0 (by decide)
    have hv31 : sl _ 31 = .slice AL1_0 y1_0.length CL1_0 := hp 1 (by decide)
    have hv32 : sl _ 32 = .int .i64 (y1_0.length : Int) := hp 2 (by decide)
    have hv33 : sl _ 33 = .bool (decide (x1_4 < (y1_0.length : Int))) := hp 3 (by decide)
    have hBw1004_w1004 := Below.refl w1004.heap.size w1004
    have hS := hS.cons hv30
    have hS := hS.cons hv31
    have hS := hS.cons hv32
    have hS := hS.cons hv33
    clear hp hI hv30 hv31 hv32 hv33
    refine hK1002 _ _ ?_
    (try clear hK1002 K1002)
    refine wp_cond_false ((hS.get 0 rfl).trans (bF (decide_eq_false c7))) ?_
    refine wp_exit ?_
    (try simp only [Exit.then, Exit.inBlock, reduceIte])
    refine hK24 _ _ ?_
    (try clear hK24 K24)
    refine wp_seq_k (fun K1005 hK1005 => ?_)
    replace hS := (((((((hS.nil).cons (hS.get 7 rfl)).cons (hS.get 6 rfl)).cons (hS.get 4 rfl)).cons (hS.get 3 rfl)).cons (hS.get 2 rfl)).cons (hS.get 1 rfl)).cons (hS.get 0 rfl)
    refine reg_seq (N := 57) (bs := [(33, .bool (decide (x1_4 < (y1_0.length : Int)))), (32, .int .i64 (y1_0.length : Int)), (31, .slice AL1_0 y1_0.length CL1_0), (30, .int .i64 x1_4), (0, .slice AL1_0 y1_0.length CL1_0), (3, .int .i64 x1_3), (4, .int .i64 x1_4)]) (I := fun x => Below w.heap.size w x ∧ Below wL1.heap.size wL1 x ∧ Below w1004.heap.size w1004 x) (ps := [IsV (.bool t1006), IsV (.bool t1006)]) (by kernel_rfl) ?_ ?_ rfl hS ⟨hBw1004_w, hBw1004_wL1, hBw1004_w1004⟩ ?_ ?_
    · exact fun x y hI hb => ⟨below_step hI.1 hb, below_step hI.2.1 hb, below_step hI.2.2 hb⟩
    · exact .v (.v (.nil))
    · refine .on rfl (fun a w hS hI hp => does_call (by kernel_rfl) rfl ((carillonlaw05_awake.calls k  t1006 _  At1006).mono fun _ _ h => ⟨_, h.1, h.2, rfl⟩)) ?_
      refine .on rfl (fun a w hS hI hp => does_val (x_assign rfl ((hp.get 0 (by rfl) rfl rfl))) rfl) ?_
      exact .nil
    clear hS
    intro at1007 w1008 hS hI hp
    have hBw1008_w := hI.1
    have hBw1008_wL1 := hI.2.1
    have hBw1008_w1004 := hI.2.2
    replace hS := (hS.nil).cons (hS.get 0 rfl)
    have hv2 : sl _ 2 = .bool t1006 := hp 1 (by decide)
    have hBw1008_w1008 := Below.refl w1008.heap.size w1008
    have hS := hS.cons hv2
    clear hp hI hv2
    refine hK1005 _ _ ?_
    (try clear hK1005 K1005)
    refine wp_ret ?_
    (try simp only [Exit.then, Exit.inBlock])
    exact bodyPost_ret (v := .bool true) (by rw [results_tmp rfl]; exact congrArg (Result.ok · _) ((hS.get 0 rfl).trans (congrArg Value.bool hret))) hS.nodef ⟨rfl, hBw1008_w⟩
  rw [if_pos c7] at H
  by_cases c8 : 0 ≤ x1_3
  rotate_left
  · rw [if_neg c8] at H
    exact absurd H (by simp)
  rw [if_pos c8] at H
  by_cases c9 : x1_3 < (y1_0.length : Int)
  rotate_left
  · rw [if_neg c9] at H
    exact absurd H (by simp)
  rw [if_pos c9] at H
  by_cases c10 : 0 ≤ x1_4
  rotate_left
  · rw [if_neg c10] at H
    exact absurd H (by simp)
  rw [if_pos c10] at H
  obtain ⟨t1007, At1007, H⟩ := Option.bind_eq_some_iff.mp H
  by_cases c11 : t1007 > 0
  · rw [if_pos c11] at H
    exact absurd H (by simp)
  rw [if_neg c11] at H
  by_cases c12 : x1_4 < x1_3
  rotate_left
  · rw [if_neg c12] at H
    have hBwL1_wL1 := Below.refl wL1.heap.size wL1
    refine wp_seq_k (fun K1001 hK1001 => ?_)
    refine wp_seq_k (fun K1002 hK1002 => ?_)
    refine reg_seq (N := 57) (bs := [(0, .slice AL1_0 y1_0.length CL1_0), (2, .bool x1_2), (3, .int .i64 x1_3), (4, .int .i64 x1_4)]) (I := fun x => Below w.heap.size w x ∧ Below wL1.heap.size wL1 x) (ps := [IsV (.int .i64 x1_4), IsV (.slice AL1_0 y1_0.length CL1_0), IsV (.int .i64 (y1_0.length : Int)), IsV (.bool (decide (x1_4 < (y1_0.length : Int))))]) (by kernel_rfl) ?_ ?_ rfl hS ⟨hBwL1_w, hBwL1_wL1⟩ ?_ ?_
    · exact fun x y hI hb => ⟨below_step hI.1 hb, below_step hI.2 hb⟩
    · exact .v (.v (.v (.v (.nil))))
    · refine .on rfl (fun a w hS hI hp => does_val (x_move rfl (hS.get 3 rfl)) rfl) ?_
      refine .on rfl (fun a w hS hI hp => does_val (x_move rfl (hS.get 0 rfl)) rfl) ?_
      refine .on rfl (fun a w hS hI hp => does_val (x_len (e := 26) rfl (by kernel_rfl) ((hp.get 1 (by rfl) rfl rfl))) rfl) ?_
      refine .on rfl (fun a w hS hI hp => does_val (x_bin rfl ((hp.get 0 (by rfl) rfl rfl)) ((hp.get 2 (by rfl) rfl rfl)) (b_lss _ _ _ _ _ _)) rfl) ?_
      exact .nil
    clear hS
    intro at1003 w1004 hS hI hp
    have hBw1004_w := hI.1
    have hBw1004_wL1 := hI.2
    have hv30 : sl _ 30 = .int .i64 x1_4 := hp 0 (by decide)
    have hv31 : sl _ 31 = .slice AL1_0 y1_0.length CL1_0 := hp 1 (by decide)
    have hv32 : sl _ 32 = .int .i64 (y1_0.length : Int) := hp 2 (by decide)
    have hv33 : sl _ 33 = .bool (decide (x1_4 < (y1_0.length : Int))) := hp 3 (by decide)
    have hBw1004_w1004 := Below.refl w1004.heap.size w1004
    have hS := hS.cons hv30
    have hS := hS.cons hv31
    have hS := hS.cons hv32
    have hS := hS.cons hv33
    clear hp hI hv30 hv31 hv32 hv33
    refine hK1002 _ _ ?_
    (try clear hK1002 K1002)
    refine wp_cond_true ((hS.get 0 rfl).trans (bT (decide_eq_true c7))) ?_
    refine wp_skip ?_
    refine hK1001 _ _ ?_
    (try clear hK1001 K1001)
    refine wp_seq_k (fun K1005 hK1005 => ?_)
    refine wp_block ?_
    refine wp_seq_k (fun K1006 hK1006 => ?_)
    refine reg_any (N := 57) (bs := [(33, .bool (decide (x1_4 < (y1_0.length : Int)))), (32, .int .i64 (y1_0.length : Int)), (31, .slice AL1_0 y1_0.length CL1_0), (30, .int .i64 x1_4), (0, .slice AL1_0 y1_0.length CL1_0), (2, .bool x1_2), (3, .int .i64 x1_3), (4, .int .i64 x1_4)]) (I := fun x => Below w.heap.size w x ∧ Below wL1.heap.size wL1 x ∧ Below w1004.heap.size w1004 x) (ps := [IsV (.slice AL1_0 y1_0.length CL1_0), IsV (.int .i64 x1_3), IsAT [.int .i64 ((rd_T26 y1_0 x1_3).f0), .int .i64 ((rd_T26 y1_0 x1_3).f1), .int .i64 ((rd_T26 y1_0 x1_3).f2)], IsV (.agg #[.int .i64 ((rd_T26 y1_0 x1_3).f0), .int .i64 ((rd_T26 y1_0 x1_3).f1), .int .i64 ((rd_T26 y1_0 x1_3).f2)]), IsV (.slice AL1_0 y1_0.length CL1_0), IsV (.int .i64 x1_4), IsAT [.int .i64 ((rd_T26 y1_0 x1_4).f0), .int .i64 ((rd_T26 y1_0 x1_4).f1), .int .i64 ((rd_T26 y1_0 x1_4).f2)], IsV (.agg #[.int .i64 ((rd_T26 y1_0 x1_4).f0), .int .i64 ((rd_T26 y1_0 x1_4).f1), .int .i64 ((rd_T26 y1_0 x1_4).f2)]), IsV (.int .i64 t1007), IsV (.int .i64 t1007)]) (by kernel_rfl) (by kernel_rfl) ?_ ?_ rfl hS ⟨hBw1004_w, hBw1004_wL1, hBw1004_w1004⟩ ?_ ?_
    · exact fun x y hI hb => ⟨below_step hI.1 hb, below_step hI.2.1 hb, below_step hI.2.2 hb⟩
    · exact .v (.v (.cons (Stays.at_ _) (.v (.v (.v (.cons (Stays.at_ _) (.v (.v (.v (.nil))))))))))
    · refine .on rfl (fun a w hS hI hp => does_val (x_move rfl (hS.get 4 rfl)) rfl) ?_
      refine .on rfl (fun a w hS hI hp => does_val (x_move rfl (hS.get 6 rfl)) rfl) ?_
      refine .on rfl (fun a w hS hI hp => does_indexT carillonlaw05_QualityFirst.flat26 (e := 26) (xs := y1_0) (i := x1_3) z26 rfl ((hp.get 0 (by rfl) rfl rfl)) ((hp.get 1 (by rfl) rfl rfl)) (by kernel_rfl) (by kernel_rfl) c8 c9 c9 (by decide) ((Kd.C_below hcL1_0 hI.2.1))) ?_
      refine .on rfl (fun a w hS hI hp => does_loadT (cs := [.int .i64 ((rd_T26 y1_0 x1_3).f0), .int .i64 ((rd_T26 y1_0 x1_3).f1), .int .i64 ((rd_T26 y1_0 x1_3).f2)]) rfl ((hp.get 2 (by rfl) rfl rfl)) Try.underlying26 rfl (by kernel_rfl)) ?_
      refine .on rfl (fun a w hS hI hp => does_val (x_move rfl (hS.get 4 rfl)) rfl) ?_
      refine .on rfl (fun a w hS hI hp => does_val (x_move rfl (hS.get 7 rfl)) rfl) ?_
      refine .on rfl (fun a w hS hI hp => does_indexT carillonlaw05_QualityFirst.flat26 (e := 26) (xs := y1_0) (i := x1_4) z26 rfl ((hp.get 4 (by rfl) rfl rfl)) ((hp.get 5 (by rfl) rfl rfl)) (by kernel_rfl) (by kernel_rfl) c10 c7 c7 (by decide) ((Kd.C_below hcL1_0 hI.2.1))) ?_
      refine .on rfl (fun a w hS hI hp => does_loadT (cs := [.int .i64 ((rd_T26 y1_0 x1_4).f0), .int .i64 ((rd_T26 y1_0 x1_4).f1), .int .i64 ((rd_T26 y1_0 x1_4).f2)]) rfl ((hp.get 6 (by rfl) rfl rfl)) Try.underlying26 rfl (by kernel_rfl)) ?_
      refine .on rfl (fun a w hS hI hp => does_call (by kernel_rfl) (ar2 ((hp.get 3 (by rfl) rfl rfl)) ((hp.get 7 (by rfl) rfl rfl))) ((quality_Compare.calls k ((rd_T26 y1_0 x1_3).f0) ((rd_T26 y1_0 x1_3).f1) ((rd_T26 y1_0 x1_3).f2) ((rd_T26 y1_0 x1_4).f0) ((rd_T26 y1_0 x1_4).f1) ((rd_T26 y1_0 x1_4).f2) t1007 _  At1007).mono fun _ _ h => ⟨_, h.1, h.2, rfl⟩)) ?_
      refine .on rfl (fun a w hS hI hp => does_val (x_assign rfl ((hp.get 8 (by rfl) rfl rfl))) rfl) ?_
      exact .nil
    clear hS
    intro at1008 w1009 hS hI hp
    have hBw1009_w := hI.1
    have hBw1009_wL1 := hI.2.1
    have hBw1009_w1004 := hI.2.2
    have hv36 : sl _ 36 = .slice AL1_0 y1_0.length CL1_0 := hp 0 (by decide)
    have hv37 : sl _ 37 = .int .i64 x1_3 := hp 1 (by decide)
    have hv39 : sl _ 39 = .agg #[.int .i64 ((rd_T26 y1_0 x1_3).f0), .int .i64 ((rd_T26 y1_0 x1_3).f1), .int .i64 ((rd_T26 y1_0 x1_3).f2)] := hp 3 (by decide)
    have hv40 : sl _ 40 = .slice AL1_0 y1_0.length CL1_0 := hp 4 (by decide)
    have hv41 : sl _ 41 = .int .i64 x1_4 := hp 5 (by decide)
    have hv43 : sl _ 43 = .agg #[.int .i64 ((rd_T26 y1_0 x1_4).f0), .int .i64 ((rd_T26 y1_0 x1_4).f1), .int .i64 ((rd_T26 y1_0 x1_4).f2)] := hp 7 (by decide)
    have hv44 : sl _ 44 = .int .i64 t1007 := hp 8 (by decide)
    have hv5 : sl _ 5 = .int .i64 t1007 := hp 9 (by decide)
    have hBw1009_w1009 := Below.refl w1009.heap.size w1009
    have hS := hS.cons hv36
    have hS := hS.cons hv37
    have hS := hS.cons hv39
    have hS := hS.cons hv40
    have hS := hS.cons hv41
    have hS := hS.cons hv43
    have hS := hS.cons hv44
    have hS := hS.cons hv5
    clear hp hI hv36 hv37 hv39 hv40 hv41 hv43 hv44 hv5
    refine hK1006 _ _ ?_
    (try clear hK1006 K1006)
    refine wp_seq_k (fun K1010 hK1010 => ?_)
    refine reg_seq (N := 57) (bs := [(5, .int .i64 t1007), (44, .int .i64 t1007), (43, .agg #[.int .i64 ((rd_T26 y1_0 x1_4).f0), .int .i64 ((rd_T26 y1_0 x1_4).f1), .int .i64 ((rd_T26 y1_0 x1_4).f2)]), (41, .int .i64 x1_4), (40, .slice AL1_0 y1_0.length CL1_0), (39, .agg #[.int .i64 ((rd_T26 y1_0 x1_3).f0), .int .i64 ((rd_T26 y1_0 x1_3).f1), .int .i64 ((rd_T26 y1_0 x1_3).f2)]), (37, .int .i64 x1_3), (36, .slice AL1_0 y1_0.length CL1_0), (33, .bool (decide (x1_4 < (y1_0.length : Int)))), (32, .int .i64 (y1_0.length : Int)), (31, .slice AL1_0 y1_0.length CL1_0), (30, .int .i64 x1_4), (0, .slice AL1_0 y1_0.length CL1_0), (2, .bool x1_2), (3, .int .i64 x1_3), (4, .int .i64 x1_4)]) (I := fun x => Below w.heap.size w x ∧ Below wL1.heap.size wL1 x ∧ Below w1009.heap.size w1009 x) (ps := [IsV (.int .i64 t1007), IsV (.bool (decide (t1007 > 0))), IsV (.bool (decide (t1007 > 0))), IsV (.int .i64 x1_4), IsV (.int .i64 x1_3), IsV (.bool (decide (x1_4 < x1_3))), IsV (.bool (decide (x1_4 < x1_3))), IsV undef, IsV undef, IsV (.bool false), IsV (.bool false)]) (by kernel_rfl) ?_ ?_ rfl hS ⟨hBw1009_w, hBw1009_wL1, hBw1009_w1009⟩ ?_ ?_
    · exact fun x y hI hb => ⟨below_step hI.1 hb, below_step hI.2.1 hb, below_step hI.2.2 hb⟩
    · exact .v (.v (.v (.v (.v (.v (.v (.v (.v (.v (.v (.nil)))))))))))
    · refine .on rfl (fun a w hS hI hp => does_val (x_move rfl (hS.get 0 rfl)) rfl) ?_
      refine .on rfl (fun a w hS hI hp => does_val (x_bin rfl ((hp.get 0 (by rfl) rfl rfl)) (rfl) (b_gtr _ _ _ _ _ _)) rfl) ?_
      refine .on rfl (fun a w hS hI hp => does_val (x_move rfl ((hp.get 1 (by rfl) rfl rfl))) rfl) ?_
      refine .of (fun a w hS hI hp => ok_y (d := 47) hS rfl rfl rfl (((hp.get 2 (by rfl) rfl rfl)).trans (bF (decide_eq_false c11))) (does_val (x_move rfl (hS.get 15 rfl)) rfl)) ?_
      refine .of (fun a w hS hI hp => ok_y (d := 47) hS rfl rfl rfl (((hp.get 2 (by rfl) rfl rfl)).trans (bF (decide_eq_false c11))) (does_val (x_move rfl (hS.get 14 rfl)) rfl)) ?_
      refine .of (fun a w hS hI hp => ok_y (d := 47) hS rfl rfl rfl (((hp.get 2 (by rfl) rfl rfl)).trans (bF (decide_eq_false c11))) (does_val (x_bin rfl ((hp.get 3 (by rfl) rfl rfl)) ((hp.get 4 (by rfl) rfl rfl)) (b_lss _ _ _ _ _ _)) rfl)) ?_
      refine .of (fun a w hS hI hp => ok_y (d := 47) hS rfl rfl rfl (((hp.get 2 (by rfl) rfl rfl)).trans (bF (decide_eq_false c11))) (does_val (x_move rfl ((hp.get 5 (by rfl) rfl rfl))) rfl)) ?_
      refine .of (fun a w hS hI hp => ok_n (d := 51) hS rfl rfl rfl (((hp.get 6 (by rfl) rfl rfl)).trans (bF (decide_eq_false c12))) rfl) ?_
      refine .of (fun a w hS hI hp => ok_n (d := 51) hS rfl rfl rfl (((hp.get 6 (by rfl) rfl rfl)).trans (bF (decide_eq_false c12))) rfl) ?_
      refine .of (fun a w hS hI hp => ok_y (d := 47) hS rfl rfl rfl (((hp.get 2 (by rfl) rfl rfl)).trans (bF (decide_eq_false c11))) (does_val (x_pickF rfl (((hp.get 6 (by rfl) rfl rfl)).trans (bF (decide_eq_false c12))) (rfl)) rfl)) ?_
      refine .on rfl (fun a w hS hI hp => does_val (x_pickF rfl (((hp.get 2 (by rfl) rfl rfl)).trans (bF (decide_eq_false c11))) ((hp.get 9 (by rfl) rfl rfl))) rfl) ?_
      exact .nil
    clear hS
    intro at1011 w1012 hS hI hp
    have hBw1012_w := hI.1
    have hBw1012_wL1 := hI.2.1
    have hBw1012_w1009 := hI.2.2
    have hv45 : sl _ 45 = .int .i64 t1007 := hp 0 (by decide)
    have hv46 : sl _ 46 = .bool (decide (t1007 > 0)) := hp 1 (by decide)
    have hv47 : sl _ 47 = .bool (decide (t1007 > 0)) := hp 2 (by decide)
    have hv48 : sl _ 48 = .int .i64 x1_4 := hp 3 (by decide)
    have hv49 : sl _ 49 = .int .i64 x1_3 := hp 4 (by decide)
    have hv50 : sl _ 50 = .bool (decide (x1_4 < x1_3)) := hp 5 (by decide)
    have hv51 : sl _ 51 = .bool (decide (x1_4 < x1_3)) := hp 6 (by decide)
    have hv54 : sl _ 54 = .bool false := hp 9 (by decide)
    have hv55 : sl _ 55 = .bool false := hp 10 (by decide)
    have hBw1012_w1012 := Below.refl w1012.heap.size w1012
    have hS := hS.cons hv45
    have hS := hS.cons hv46
    have hS := hS.cons hv47
    have hS := hS.cons hv48
    have hS := hS.cons hv49
    have hS := hS.cons hv50
    have hS := hS.cons hv51
    have hS := hS.cons hv54
    have hS := hS.cons hv55
    clear hp hI hv45 hv46 hv47 hv48 hv49 hv50 hv51 hv54 hv55
    refine hK1010 _ _ ?_
    (try clear hK1010 K1010)
    refine wp_cond_false ((hS.get 0 rfl).trans (bF rfl)) ?_
    refine wp_skip ?_
    refine hK1005 _ _ ?_
    (try clear hK1005 K1005)
    refine reg_seq_tail 2 (N := 57) (bs := [(55, .bool false), (54, .bool false), (51, .bool (decide (x1_4 < x1_3))), (50, .bool (decide (x1_4 < x1_3))), (49, .int .i64 x1_3), (48, .int .i64 x1_4), (47, .bool (decide (t1007 > 0))), (46, .bool (decide (t1007 > 0))), (45, .int .i64 t1007), (5, .int .i64 t1007), (44, .int .i64 t1007), (43, .agg #[.int .i64 ((rd_T26 y1_0 x1_4).f0), .int .i64 ((rd_T26 y1_0 x1_4).f1), .int .i64 ((rd_T26 y1_0 x1_4).f2)]), (41, .int .i64 x1_4), (40, .slice AL1_0 y1_0.length CL1_0), (39, .agg #[.int .i64 ((rd_T26 y1_0 x1_3).f0), .int .i64 ((rd_T26 y1_0 x1_3).f1), .int .i64 ((rd_T26 y1_0 x1_3).f2)]), (37, .int .i64 x1_3), (36, .slice AL1_0 y1_0.length CL1_0), (33, .bool (decide (x1_4 < (y1_0.length : Int)))), (32, .int .i64 (y1_0.length : Int)), (31, .slice AL1_0 y1_0.length CL1_0), (30, .int .i64 x1_4), (0, .slice AL1_0 y1_0.length CL1_0), (2, .bool x1_2), (3, .int .i64 x1_3), (4, .int .i64 x1_4)]) (I := fun x => Below w.heap.size w x ∧ Below wL1.heap.size wL1 x ∧ Below w1012.heap.size w1012 x) (ps := [IsV (.int .i64 x1_4), IsV (.int .i64 (wrap64 (x1_4 + 1)))]) (by kernel_rfl) ?_ ?_ rfl hS ⟨hBw1012_w, hBw1012_wL1, hBw1012_w1012⟩ ?_ ?_
    · exact fun x y hI hb => ⟨below_step hI.1 hb, below_step hI.2.1 hb, below_step hI.2.2 hb⟩
    · exact .v (.v (.nil))
    · refine .on rfl (fun a w hS hI hp => does_val (x_move rfl (hS.get 24 rfl)) rfl) ?_
      refine .on rfl (fun a w hS hI hp => does_val (x_bin rfl ((hp.get 0 (by rfl) rfl rfl)) (rfl) (b_add _ _ _ _ _)) rfl) ?_
      exact .nil
    clear hS
    intro at1013 w1014 hS hI hp
    have hBw1014_w := hI.1
    have hBw1014_wL1 := hI.2.1
    have hBw1014_w1012 := hI.2.2
    have hv34 : sl _ 34 = .int .i64 x1_4 := hp 0 (by decide)
    have hv35 : sl _ 35 = .int .i64 (wrap64 (x1_4 + 1)) := hp 1 (by decide)
    have hBw1014_w1014 := Below.refl w1014.heap.size w1014
    have hS := hS.cons hv34
    have hS := hS.cons hv35
    clear hp hI hv34 hv35
    show wpList _ _ _ [_] _ _
    refine list_step rfl (R := fun v w' => Below _ _ w' ∧ (IsV (.int .i64 (wrap64 (x1_4 + 1)))) v w') (does_val (x_assign rfl (hS.get 0 rfl)) rfl) ?_
    rintro vw1015 w1015 ⟨hb, he⟩
    have hBw1015_w := below_step hBw1014_w hb
    have hBw1015_wL1 := below_step hBw1014_wL1 hb
    have hBw1015_w1014 := below_step hBw1014_w1014 hb
    have hBw1015_w1015 := Below.refl w1015.heap.size w1015
    obtain rfl : vw1015 = .int .i64 (wrap64 (x1_4 + 1)) := he
    replace hS := ((((((((((((((((((((((((((hS.nil).cons (hS.get 25 rfl)).cons (hS.get 24 rfl)).cons (hS.get 23 rfl)).cons (hS.get 22 rfl)).cons (hS.get 21 rfl)).cons (hS.get 20 rfl)).cons (hS.get 19 rfl)).cons (hS.get 18 rfl)).cons (hS.get 17 rfl)).cons (hS.get 16 rfl)).cons (hS.get 15 rfl)).cons (hS.get 14 rfl)).cons (hS.get 13 rfl)).cons (hS.get 12 rfl)).cons (hS.get 11 rfl)).cons (hS.get 10 rfl)).cons (hS.get 9 rfl)).cons (hS.get 8 rfl)).cons (hS.get 7 rfl)).cons (hS.get 6 rfl)).cons (hS.get 5 rfl)).cons (hS.get 4 rfl)).cons (hS.get 3 rfl)).cons (hS.get 2 rfl)).cons (hS.get 1 rfl)).cons (hS.get 0 rfl)
    refine hS.next (v := .int .i64 (wrap64 (x1_4 + 1))) (d := 4) rfl (by decide) (by rfl) ?_
    clear hS
    intro at1016 hS
    refine wpList_nil ?_
    replace hS := ((((hS.nil).cons (hS.get 0 rfl)).cons (hS.get 26 rfl)).cons (hS.get 25 rfl)).cons (hS.get 24 rfl)
    (try simp only [Exit.then, Exit.inBlock])
    exact ⟨n1, Nat.lt_succ_self _, y1_0, AL1_0, CL1_0, x1_2, x1_3, wrap64 (x1_4 + 1), H, hS, hBw1015_w, hr1_0, (Kd.C_below hcL1_0 hBw1015_wL1)⟩
  rw [if_pos c12] at H
  by_cases c13 : t1007 = 0
  · rw [if_pos c13] at H
    exact absurd H (by simp)
  rw [if_neg c13] at H
  have hBwL1_wL1 := Below.refl wL1.heap.size wL1
  refine wp_seq_k (fun K1001 hK1001 => ?_)
  refine wp_seq_k (fun K1002 hK1002 => ?_)
  refine reg_seq (N := 57) (bs := [(0, .slice AL1_0 y1_0.length CL1_0), (2, .bool x1_2), (3, .int .i64 x1_3), (4, .int .i64 x1_4)]) (I := fun x => Below w.heap.size w x ∧ Below wL1.heap.size wL1 x) (ps := [IsV (.int .i64 x1_4), IsV (.slice AL1_0 y1_0.length CL1_0), IsV (.int .i64 (y1_0.length : Int)), IsV (.bool (decide (x1_4 < (y1_0.length : Int))))]) (by kernel_rfl) ?_ ?_ rfl hS ⟨hBwL1_w, hBwL1_wL1⟩ ?_ ?_
  · exact fun x y hI hb => ⟨below_step hI.1 hb, below_step hI.2 hb⟩
  · exact .v (.v (.v (.v (.nil))))
  · refine .on rfl (fun a w hS hI hp => does_val (x_move rfl (hS.get 3 rfl)) rfl) ?_
    refine .on rfl (fun a w hS hI hp => does_val (x_move rfl (hS.get 0 rfl)) rfl) ?_
    refine .on rfl (fun a w hS hI hp => does_val (x_len (e := 26) rfl (by kernel_rfl) ((hp.get 1 (by rfl) rfl rfl))) rfl) ?_
    refine .on rfl (fun a w hS hI hp => does_val (x_bin rfl ((hp.get 0 (by rfl) rfl rfl)) ((hp.get 2 (by rfl) rfl rfl)) (b_lss _ _ _ _ _ _)) rfl) ?_
    exact .nil
  clear hS
  intro at1003 w1004 hS hI hp
  have hBw1004_w := hI.1
  have hBw1004_wL1 := hI.2
  have hv30 : sl _ 30 = .int .i64 x1_4 := hp 0 (by decide)
  have hv31 : sl _ 31 = .slice AL1_0 y1_0.length CL1_0 := hp 1 (by decide)
  have hv32 : sl _ 32 = .int .i64 (y1_0.length : Int) := hp 2 (by decide)
  have hv33 : sl _ 33 = .bool (decide (x1_4 < (y1_0.length : Int))) := hp 3 (by decide)
  have hBw1004_w1004 := Below.refl w1004.heap.size w1004
  have hS := hS.cons hv30
  have hS := hS.cons hv31
  have hS := hS.cons hv32
  have hS := hS.cons hv33
  clear hp hI hv30 hv31 hv32 hv33
  refine hK1002 _ _ ?_
  (try clear hK1002 K1002)
  refine wp_cond_true ((hS.get 0 rfl).trans (bT (decide_eq_true c7))) ?_
  refine wp_skip ?_
  refine hK1001 _ _ ?_
  (try clear hK1001 K1001)
  refine wp_seq_k (fun K1005 hK1005 => ?_)
  refine wp_block ?_
  refine wp_seq_k (fun K1006 hK1006 => ?_)
  refine reg_any (N := 57) (bs := [(33, .bool (decide (x1_4 < (y1_0.length : Int)))), (32, .int .i64 (y1_0.length : Int)), (31, .slice AL1_0 y1_0.length CL1_0), (30, .int .i64 x1_4), (0, .slice AL1_0 y1_0.length CL1_0), (2, .bool x1_2), (3, .int .i64 x1_3), (4, .int .i64 x1_4)]) (I := fun x => Below w.heap.size w x ∧ Below wL1.heap.size wL1 x ∧ Below w1004.heap.size w1004 x) (ps := [IsV (.slice AL1_0 y1_0.length CL1_0), IsV (.int .i64 x1_3), IsAT [.int .i64 ((rd_T26 y1_0 x1_3).f0), .int .i64 ((rd_T26 y1_0 x1_3).f1), .int .i64 ((rd_T26 y1_0 x1_3).f2)], IsV (.agg #[.int .i64 ((rd_T26 y1_0 x1_3).f0), .int .i64 ((rd_T26 y1_0 x1_3).f1), .int .i64 ((rd_T26 y1_0 x1_3).f2)]), IsV (.slice AL1_0 y1_0.length CL1_0), IsV (.int .i64 x1_4), IsAT [.int .i64 ((rd_T26 y1_0 x1_4).f0), .int .i64 ((rd_T26 y1_0 x1_4).f1), .int .i64 ((rd_T26 y1_0 x1_4).f2)], IsV (.agg #[.int .i64 ((rd_T26 y1_0 x1_4).f0), .int .i64 ((rd_T26 y1_0 x1_4).f1), .int .i64 ((rd_T26 y1_0 x1_4).f2)]), IsV (.int .i64 t1007), IsV (.int .i64 t1007)]) (by kernel_rfl) (by kernel_rfl) ?_ ?_ rfl hS ⟨hBw1004_w, hBw1004_wL1, hBw1004_w1004⟩ ?_ ?_
  · exact fun x y hI hb => ⟨below_step hI.1 hb, below_step hI.2.1 hb, below_step hI.2.2 hb⟩
  · exact .v (.v (.cons (Stays.at_ _) (.v (.v (.v (.cons (Stays.at_ _) (.v (.v (.v (.nil))))))))))
  · refine .on rfl (fun a w hS hI hp => does_val (x_move rfl (hS.get 4 rfl)) rfl) ?_
    refine .on rfl (fun a w hS hI hp => does_val (x_move rfl (hS.get 6 rfl)) rfl) ?_
    refine .on rfl (fun a w hS hI hp => does_indexT carillonlaw05_QualityFirst.flat26 (e := 26) (xs := y1_0) (i := x1_3) z26 rfl ((hp.get 0 (by rfl) rfl rfl)) ((hp.get 1 (by rfl) rfl rfl)) (by kernel_rfl) (by kernel_rfl) c8 c9 c9 (by decide) ((Kd.C_below hcL1_0 hI.2.1))) ?_
    refine .on rfl (fun a w hS hI hp => does_loadT (cs := [.int .i64 ((rd_T26 y1_0 x1_3).f0), .int .i64 ((rd_T26 y1_0 x1_3).f1), .int .i64 ((rd_T26 y1_0 x1_3).f2)]) rfl ((hp.get 2 (by rfl) rfl rfl)) Try.underlying26 rfl (by kernel_rfl)) ?_
    refine .on rfl (fun a w hS hI hp => does_val (x_move rfl (hS.get 4 rfl)) rfl) ?_
    refine .on rfl (fun a w hS hI hp => does_val (x_move rfl (hS.get 7 rfl)) rfl) ?_
    refine .on rfl (fun a w hS hI hp => does_indexT carillonlaw05_QualityFirst.flat26 (e := 26) (xs := y1_0) (i := x1_4) z26 rfl ((hp.get 4 (by rfl) rfl rfl)) ((hp.get 5 (by rfl) rfl rfl)) (by kernel_rfl) (by kernel_rfl) c10 c7 c7 (by decide) ((Kd.C_below hcL1_0 hI.2.1))) ?_
    refine .on rfl (fun a w hS hI hp => does_loadT (cs := [.int .i64 ((rd_T26 y1_0 x1_4).f0), .int .i64 ((rd_T26 y1_0 x1_4).f1), .int .i64 ((rd_T26 y1_0 x1_4).f2)]) rfl ((hp.get 6 (by rfl) rfl rfl)) Try.underlying26 rfl (by kernel_rfl)) ?_
    refine .on rfl (fun a w hS hI hp => does_call (by kernel_rfl) (ar2 ((hp.get 3 (by rfl) rfl rfl)) ((hp.get 7 (by rfl) rfl rfl))) ((quality_Compare.calls k ((rd_T26 y1_0 x1_3).f0) ((rd_T26 y1_0 x1_3).f1) ((rd_T26 y1_0 x1_3).f2) ((rd_T26 y1_0 x1_4).f0) ((rd_T26 y1_0 x1_4).f1) ((rd_T26 y1_0 x1_4).f2) t1007 _  At1007).mono fun _ _ h => ⟨_, h.1, h.2, rfl⟩)) ?_
    refine .on rfl (fun a w hS hI hp => does_val (x_assign rfl ((hp.get 8 (by rfl) rfl rfl))) rfl) ?_
    exact .nil
  clear hS
  intro at1008 w1009 hS hI hp
  have hBw1009_w := hI.1
  have hBw1009_wL1 := hI.2.1
  have hBw1009_w1004 := hI.2.2
  have hv36 : sl _ 36 = .slice AL1_0 y1_0.length CL1_0 := hp 0 (by decide)
  have hv37 : sl _ 37 = .int .i64 x1_3 := hp 1 (by decide)
  have hv39 : sl _ 39 = .agg #[.int .i64 ((rd_T26 y1_0 x1_3).f0), .int .i64 ((rd_T26 y1_0 x1_3).f1), .int .i64 ((rd_T26 y1_0 x1_3).f2)] := hp 3 (by decide)
  have hv40 : sl _ 40 = .slice AL1_0 y1_0.length CL1_0 := hp 4 (by decide)
  have hv41 : sl _ 41 = .int .i64 x1_4 := hp 5 (by decide)
  have hv43 : sl _ 43 = .agg #[.int .i64 ((rd_T26 y1_0 x1_4).f0), .int .i64 ((rd_T26 y1_0 x1_4).f1), .int .i64 ((rd_T26 y1_0 x1_4).f2)] := hp 7 (by decide)
  have hv44 : sl _ 44 = .int .i64 t1007 := hp 8 (by decide)
  have hv5 : sl _ 5 = .int .i64 t1007 := hp 9 (by decide)
  have hBw1009_w1009 := Below.refl w1009.heap.size w1009
  have hS := hS.cons hv36
  have hS := hS.cons hv37
  have hS := hS.cons hv39
  have hS := hS.cons hv40
  have hS := hS.cons hv41
  have hS := hS.cons hv43
  have hS := hS.cons hv44
  have hS := hS.cons hv5
  clear hp hI hv36 hv37 hv39 hv40 hv41 hv43 hv44 hv5
  refine hK1006 _ _ ?_
  (try clear hK1006 K1006)
  refine wp_seq_k (fun K1010 hK1010 => ?_)
  refine reg_seq (N := 57) (bs := [(5, .int .i64 t1007), (44, .int .i64 t1007), (43, .agg #[.int .i64 ((rd_T26 y1_0 x1_4).f0), .int .i64 ((rd_T26 y1_0 x1_4).f1), .int .i64 ((rd_T26 y1_0 x1_4).f2)]), (41, .int .i64 x1_4), (40, .slice AL1_0 y1_0.length CL1_0), (39, .agg #[.int .i64 ((rd_T26 y1_0 x1_3).f0), .int .i64 ((rd_T26 y1_0 x1_3).f1), .int .i64 ((rd_T26 y1_0 x1_3).f2)]), (37, .int .i64 x1_3), (36, .slice AL1_0 y1_0.length CL1_0), (33, .bool (decide (x1_4 < (y1_0.length : Int)))), (32, .int .i64 (y1_0.length : Int)), (31, .slice AL1_0 y1_0.length CL1_0), (30, .int .i64 x1_4), (0, .slice AL1_0 y1_0.length CL1_0), (2, .bool x1_2), (3, .int .i64 x1_3), (4, .int .i64 x1_4)]) (I := fun x => Below w.heap.size w x ∧ Below wL1.heap.size wL1 x ∧ Below w1009.heap.size w1009 x) (ps := [IsV (.int .i64 t1007), IsV (.bool (decide (t1007 > 0))), IsV (.bool (decide (t1007 > 0))), IsV (.int .i64 x1_4), IsV (.int .i64 x1_3), IsV (.bool (decide (x1_4 < x1_3))), IsV (.bool (decide (x1_4 < x1_3))), IsV (.int .i64 t1007), IsV (.bool (decide (t1007 = 0))), IsV (.bool (decide (t1007 = 0))), IsV (.bool (decide (t1007 = 0)))]) (by kernel_rfl) ?_ ?_ rfl hS ⟨hBw1009_w, hBw1009_wL1, hBw1009_w1009⟩ ?_ ?_
  · exact fun x y hI hb => ⟨below_step hI.1 hb, below_step hI.2.1 hb, below_step hI.2.2 hb⟩
  · exact .v (.v (.v (.v (.v (.v (.v (.v (.v (.v (.v (.nil)))))))))))
  · refine .on rfl (fun a w hS hI hp => does_val (x_move rfl (hS.get 0 rfl)) rfl) ?_
    refine .on rfl (fun a w hS hI hp => does_val (x_bin rfl ((hp.get 0 (by rfl) rfl rfl)) (rfl) (b_gtr _ _ _ _ _ _)) rfl) ?_
    refine .on rfl (fun a w hS hI hp => does_val (x_move rfl ((hp.get 1 (by rfl) rfl rfl))) rfl) ?_
    refine .of (fun a w hS hI hp => ok_y (d := 47) hS rfl rfl rfl (((hp.get 2 (by rfl) rfl rfl)).trans (bF (decide_eq_false c11))) (does_val (x_move rfl (hS.get 15 rfl)) rfl)) ?_
    refine .of (fun a w hS hI hp => ok_y (d := 47) hS rfl rfl rfl (((hp.get 2 (by rfl) rfl rfl)).trans (bF (decide_eq_false c11))) (does_val (x_move rfl (hS.get 14 rfl)) rfl)) ?_
    refine .of (fun a w hS hI hp => ok_y (d := 47) hS rfl rfl rfl (((hp.get 2 (by rfl) rfl rfl)).trans (bF (decide_eq_false c11))) (does_val (x_bin rfl ((hp.get 3 (by rfl) rfl rfl)) ((hp.get 4 (by rfl) rfl rfl)) (b_lss _ _ _ _ _ _)) rfl)) ?_
    refine .of (fun a w hS hI hp => ok_y (d := 47) hS rfl rfl rfl (((hp.get 2 (by rfl) rfl rfl)).trans (bF (decide_eq_false c11))) (does_val (x_move rfl ((hp.get 5 (by rfl) rfl rfl))) rfl)) ?_
    refine .of (fun a w hS hI hp => ok_y (d := 51) hS rfl rfl rfl (((hp.get 6 (by rfl) rfl rfl)).trans (bT (decide_eq_true c12))) (does_val (x_move rfl (hS.get 0 rfl)) rfl)) ?_
    refine .of (fun a w hS hI hp => ok_y (d := 51) hS rfl rfl rfl (((hp.get 6 (by rfl) rfl rfl)).trans (bT (decide_eq_true c12))) (does_val (x_bin rfl ((hp.get 7 (by rfl) rfl rfl)) (rfl) (b_eql _ _ _ _ _ _)) rfl)) ?_
    refine .of (fun a w hS hI hp => ok_y (d := 47) hS rfl rfl rfl (((hp.get 2 (by rfl) rfl rfl)).trans (bF (decide_eq_false c11))) (does_val (x_pickT rfl (((hp.get 6 (by rfl) rfl rfl)).trans (bT (decide_eq_true c12))) ((hp.get 8 (by rfl) rfl rfl))) rfl)) ?_
    refine .on rfl (fun a w hS hI hp => does_val (x_pickF rfl (((hp.get 2 (by rfl) rfl rfl)).trans (bF (decide_eq_false c11))) ((hp.get 9 (by rfl) rfl rfl))) rfl) ?_
    exact .nil
  clear hS
  intro at1011 w1012 hS hI hp
  have hBw1012_w := hI.1
  have hBw1012_wL1 := hI.2.1
  have hBw1012_w1009 := hI.2.2
  have hv45 : sl _ 45 = .int .i64 t1007 := hp 0 (by decide)
  have hv46 : sl _ 46 = .bool (decide (t1007 > 0)) := hp 1 (by decide)
  have hv47 : sl _ 47 = .bool (decide (t1007 > 0)) := hp 2 (by decide)
  have hv48 : sl _ 48 = .int .i64 x1_4 := hp 3 (by decide)
  have hv49 : sl _ 49 = .int .i64 x1_3 := hp 4 (by decide)
  have hv50 : sl _ 50 = .bool (decide (x1_4 < x1_3)) := hp 5 (by decide)
  have hv51 : sl _ 51 = .bool (decide (x1_4 < x1_3)) := hp 6 (by decide)
  have hv52 : sl _ 52 = .int .i64 t1007 := hp 7 (by decide)
  have hv53 : sl _ 53 = .bool (decide (t1007 = 0)) := hp 8 (by decide)
  have hv54 : sl _ 54 = .bool (decide (t1007 = 0)) := hp 9 (by decide)
  have hv55 : sl _ 55 = .bool (decide (t1007 = 0)) := hp 10 (by decide)
  have hBw1012_w1012 := Below.refl w1012.heap.size w1012
  have hS := hS.cons hv45
  have hS := hS.cons hv46
  have hS := hS.cons hv47
  have hS := hS.cons hv48
  have hS := hS.cons hv49
  have hS := hS.cons hv50
  have hS := hS.cons hv51
  have hS := hS.cons hv52
  have hS := hS.cons hv53
  have hS := hS.cons hv54
  have hS := hS.cons hv55
  clear hp hI hv45 hv46 hv47 hv48 hv49 hv50 hv51 hv52 hv53 hv54 hv55
  refine hK1010 _ _ ?_
  (try clear hK1010 K1010)
  refine wp_cond_false ((hS.get 0 rfl).trans (bF (decide_eq_false c13))) ?_
  refine wp_skip ?_
  refine hK1005 _ _ ?_
  (try clear hK1005 K1005)
  refine reg_seq_tail 2 (N := 57) (bs := [(55, .bool (decide (t1007 = 0))), (54, .bool (decide (t1007 = 0))), (53, .bool (decide (t1007 = 0))), (52, .int .i64 t1007), (51, .bool (decide (x1_4 < x1_3))), (50, .bool (decide (x1_4 < x1_3))), (49, .int .i64 x1_3), (48, .int .i64 x1_4), (47, .bool (decide (t1007 > 0))), (46, .bool (decide (t1007 > 0))), (45, .int .i64 t1007), (5, .int .i64 t1007), (44, .int .i64 t1007), (43, .agg #[.int .i64 ((rd_T26 y1_0 x1_4).f0), .int .i64 ((rd_T26 y1_0 x1_4).f1), .int .i64 ((rd_T26 y1_0 x1_4).f2)]), (41, .int .i64 x1_4), (40, .slice AL1_0 y1_0.length CL1_0), (39, .agg #[.int .i64 ((rd_T26 y1_0 x1_3).f0), .int .i64 ((rd_T26 y1_0 x1_3).f1), .int .i64 ((rd_T26 y1_0 x1_3).f2)]), (37, .int .i64 x1_3), (36, .slice AL1_0 y1_0.length CL1_0), (33, .bool (decide (x1_4 < (y1_0.length : Int)))), (32, .int .i64 (y1_0.length : Int)), (31, .slice AL1_0 y1_0.length CL1_0), (30, .int .i64 x1_4), (0, .slice AL1_0 y1_0.length CL1_0), (2, .bool x1_2), (3, .int .i64 x1_3), (4, .int .i64 x1_4)]) (I := fun x => Below w.heap.size w x ∧ Below wL1.heap.size wL1 x ∧ Below w1012.heap.size w1012 x) (ps := [IsV (.int .i64 x1_4), IsV (.int .i64 (wrap64 (x1_4 + 1)))]) (by kernel_rfl) ?_ ?_ rfl hS ⟨hBw1012_w, hBw1012_wL1, hBw1012_w1012⟩ ?_ ?_
  · exact fun x y hI hb => ⟨below_step hI.1 hb, below_step hI.2.1 hb, below_step hI.2.2 hb⟩
  · exact .v (.v (.nil))
  · refine .on rfl (fun a w hS hI hp => does_val (x_move rfl (hS.get 26 rfl)) rfl) ?_
    refine .on rfl (fun a w hS hI hp => does_val (x_bin rfl ((hp.get 0 (by rfl) rfl rfl)) (rfl) (b_add _ _ _ _ _)) rfl) ?_
    exact .nil
  clear hS
  intro at1013 w1014 hS hI hp
  have hBw1014_w := hI.1
  have hBw1014_wL1 := hI.2.1
  have hBw1014_w1012 := hI.2.2
  have hv34 : sl _ 34 = .int .i64 x1_4 := hp 0 (by decide)
  have hv35 : sl _ 35 = .int .i64 (wrap64 (x1_4 + 1)) := hp 1 (by decide)
  have hBw1014_w1014 := Below.refl w1014.heap.size w1014
  have hS := hS.cons hv34
  have hS := hS.cons hv35
  clear hp hI hv34 hv35
  show wpList _ _ _ [_] _ _
  refine list_step rfl (R := fun v w' => Below _ _ w' ∧ (IsV (.int .i64 (wrap64 (x1_4 + 1)))) v w') (does_val (x_assign rfl (hS.get 0 rfl)) rfl) ?_
  rintro vw1015 w1015 ⟨hb, he⟩
  have hBw1015_w := below_step hBw1014_w hb
  have hBw1015_wL1 := below_step hBw1014_wL1 hb
  have hBw1015_w1014 := below_step hBw1014_w1014 hb
  have hBw1015_w1015 := Below.refl w1015.heap.size w1015
  obtain rfl : vw1015 = .int .i64 (wrap64 (x1_4 + 1)) := he
  replace hS := ((((((((((((((((((((((((((((hS.nil).cons (hS.get 27 rfl)).cons (hS.get 26 rfl)).cons (hS.get 25 rfl)).cons (hS.get 24 rfl)).cons (hS.get 23 rfl)).cons (hS.get 22 rfl)).cons (hS.get 21 rfl)).cons (hS.get 20 rfl)).cons (hS.get 19 rfl)).cons (hS.get 18 rfl)).cons (hS.get 17 rfl)).cons (hS.get 16 rfl)).cons (hS.get 15 rfl)).cons (hS.get 14 rfl)).cons (hS.get 13 rfl)).cons (hS.get 12 rfl)).cons (hS.get 11 rfl)).cons (hS.get 10 rfl)).cons (hS.get 9 rfl)).cons (hS.get 8 rfl)).cons (hS.get 7 rfl)).cons (hS.get 6 rfl)).cons (hS.get 5 rfl)).cons (hS.get 4 rfl)).cons (hS.get 3 rfl)).cons (hS.get 2 rfl)).cons (hS.get 1 rfl)).cons (hS.get 0 rfl)
  refine hS.next (v := .int .i64 (wrap64 (x1_4 + 1))) (d := 4) rfl (by decide) (by rfl) ?_
  clear hS
  intro at1016 hS
  refine wpList_nil ?_
  replace hS := ((((hS.nil).cons (hS.get 0 rfl)).cons (hS.get 28 rfl)).cons (hS.get 27 rfl)).cons (hS.get 26 rfl)
  (try simp only [Exit.then, Exit.inBlock])
  exact ⟨n1, Nat.lt_succ_self _, y1_0, AL1_0, CL1_0, x1_2, x1_3, wrap64 (x1_4 + 1), H, hS, hBw1015_w, hr1_0, (Kd.C_below hcL1_0 hBw1015_wL1)⟩

/-- The one pure statement of carillonlaw05_QualityFirst. -/
def carillonlaw05_QualityFirst.Pure : Prop := ∀ (l0 : List (S26)), l0.length ≤ maxLen → l0.length * 24 ≤ 140737488351232 → (∀ x ∈ l0, (Lit.int .i64 x.f0).wf = true ∧ (Lit.int .i64 x.f1).wf = true ∧ (Lit.int .i64 x.f2).wf = true) → ∃ k, carillonlaw05_QualityFirst.f k l0 = some true
theorem carillonlaw05_QualityFirst.walk (P : carillonlaw05_QualityFirst.Pure) (a0 : Option Addr) (cap0 : Nat) (l0 : List (S26)) (w : World) (hr0 : Kd.C k26 w a0 l0.length l0) (hc0 : l0.length ≤ cap0) (hm0 : l0.length ≤ maxLen) (y0 : l0.length * 24 ≤ 140737488351232) (hw0 : (∀ x ∈ l0, (Lit.int .i64 x.f0).wf = true ∧ (Lit.int .i64 x.f1).wf = true ∧ (Lit.int .i64 x.f2).wf = true)) :
    Calls Try.prog 5 #[.slice a0 l0.length cap0] w fun e w' => e = .returned (.bool true) ∧ Below w.heap.size w w' := by
  obtain ⟨k, h⟩ := P l0 hm0 y0 hw0
  refine (carillonlaw05_QualityFirst.calls k a0 cap0 l0 w hr0 hc0 h).mono ?_
  rintro e w' ⟨rfl, hd⟩
  exact ⟨rfl, hd⟩

end Go.Proofs.Ytmfahcabdkajnaa.P
