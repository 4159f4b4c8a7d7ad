/- Functions and loops of the given program as Lean functions, and that the code comes to what they say: written by this session's own program; Lean checks it. -/
import Derived.Test.YtgmiokocipmbaaaZzPx0
import Derived.Test.YtgmiokocipmbaaaZzPx1
namespace Go.Proofs.Ytgmiokocipmbaaa.P
open Go.RowKit Go.Proofs.YtgmiokocipmbaaaW.PrintWords Go.Proofs.YtgmiokocipmbaaaW.PrintLast Go.Proofs.YtgmiokocipmbaaaW.PrintMore
attribute [local go_sem] max2_int min2_int max_two min_two max_three min_three max_four min_four   -- for this text's walks alone
set_option linter.unusedVariables false
set_option linter.unusedSimpArgs false
def carillonlaw00_Tlvs.f (l0 : List (S26)) : Option ((List (S26))) := if ([] : List (S26)).length + l0.length < 5864062014805 then (some (([] : List (S26)) ++ l0)) else (none)
set_option maxHeartbeats 8000000 in
set_option maxRecDepth 100000 in
theorem carillonlaw00_Tlvs.calls (A0 : Option Addr) (c0 : Nat) (l0 : List (S26)) (r : List (S26)) (w : World) (hr0 : Kd.C k26 w A0 l0.length l0) (hc0 : l0.length ≤ c0) (h : carillonlaw00_Tlvs.f l0 = some r) :
    Calls Try.prog 13 #[.slice A0 l0.length c0] w fun e w' => ∃ v0_ : Value, e = .returned (v0_) ∧ Kd.R k26 26 w' w.heap.size (fun _ => True) v0_ r ∧ Below w.heap.size w w' := by
  have HR0 := Aside0.mk hr0
  have HC0 := Aside0.mk hc0
  clear hr0 hc0
  have HB := Aside0.mk (Below.refl w.heap.size w)
  have H : (if ([] : List (S26)).length + l0.length < 5864062014805 then (some (([] : List (S26)) ++ l0)) else (none)) = some r := h
  clear h
  by_cases c2 : ([] : List (S26)).length + l0.length < 5864062014805
  · rw [if_pos c2] at H
    have LMc2 := Aside0.mk c2
    clear c2
    obtain ⟨y115, hy115⟩ : ∃ y_ : List (S26), y_ = (([] : List (S26)) ++ l0) := ⟨_, rfl⟩
    replace H : (some y115) = some r := by first | (rw [hy115]; with_reducible exact H) | (have H2_ := (Option.bind_some _ _).symm.trans H; rw [hy115]; with_reducible exact H2_) | (have H2_ := (Option.bind_some _ _).symm.trans H; with_reducible exact H2_) | with_reducible exact H | (rw [hy115]; exact H) | exact H
    have Ny115 := Aside0.mk hy115
    clear hy115
    obtain rfl := Option.some.inj H
    go_enter Try.func13, Try.ntmps13
    go_wp2_with (first | ((with_reducible refine gate_builtin (b := .append) (xs := #[.const (.slice none 0 0), .tmp 3]) rfl ?_); at_builtin; refine Kd.R_append_rows k26 (w0 := w) w.heap.size rfl (.const (.slice none 0 0)) (.tmp 3) 22 26 (.agg #[(.int .i64 0), (.string ⟨#[]⟩)]) 24 rfl Try.underlying22 info26 rfl (by decide) (by omega) (.slice none 0 0) ([] : List (S26)) l0 _ _ _ (fun _ => True) (fun _ => False) rfl rfl ?aO ?aR (fun _ _ h => h) (fun _ h => h.elim) ?aF ?aB ?aS ?aL ?_; (case aR => repeat (first | exact HR0.out | (with_reducible refine Kd.C_alloc ?_ _) | (with_reducible refine Kd.C_drewN ?_ _) | (with_reducible refine Kd.C_drew ?_))); (case aB => exact (by repeat (first | (with_reducible first | exact HB.out | apply below_alloc | apply pw_below_drewN | apply below_drew1) | exact HB.out))); (case aF => exact (fun _ _ => trivial)); (case aO => exact ((Kd.R_nil _ _ _ _ (fun _ => True)))); (case aS => exact (below_size (by repeat (first | (with_reducible first | exact HB.out | apply below_alloc | apply pw_below_drewN | apply below_drew1) | exact HB.out)))); (case aL => have := LMc2.out; omega); intro v116 w3 ho hb hg hat; rw [← Ny115.out] at ho; have n0_ := Aside0.mk (hb); have n1_ := Aside0.mk (ho); clear HB; have HB := n0_; have HO117 := n1_; clear n0_ n1_; clear ho hb hg hat))
    all_goals
      go_ret
      exact ⟨_, by first | rfl | (simp [errW_none, errW_some] <;> rfl) | (simp [*, errW_none, errW_some] <;> rfl), by (with_reducible repeat (first | apply Kd.R_alloc | apply Kd.R_drewN | apply Kd.R_drew)); exact HO117.out, by repeat (first | (with_reducible first | exact HB.out | apply below_alloc | apply pw_below_drewN | apply below_drew1) | exact HB.out)⟩
  · rw [if_neg c2] at H
    exact absurd H (by simp)
def carillonlaw08_TlvFinds.l2 (k : Nat) (lc1 : (List (S26)) → Int → Int → Option (Bool)) : Nat → (List (S26)) → Int → Int → Int → ByteArray → Bool → Int → Option (Bool)
  | 0, _, _, _, _, _, _, _ => none
  | n2 + 1, y2_0, x2_1, x2_5, x2_6_0, x2_6_1, x2_7, x2_8 => if 0 ≤ x2_8 then (if x2_8 < (y2_0.length : Int) then (if 0 ≤ x2_5 then (if x2_5 < (y2_0.length : Int) then (if ((rd_T26 y2_0 x2_8).f0) = ((rd_T26 y2_0 x2_5).f0) then (if x2_7 = true then (if ((x2_6_0 == ((rd_T26 y2_0 x2_8).f0)) && (x2_6_1.toList == ((rd_T26 y2_0 x2_8).f1).toList)) = true then (lc1 y2_0 x2_1 (wrap64 (x2_5 + 1))) else (some false)) else (some false)) else (carillonlaw08_TlvFinds.l2 k lc1 n2 y2_0 x2_1 x2_5 x2_6_0 x2_6_1 x2_7 (wrap64 (x2_8 + 1)))) else (none)) else (none)) else (none)) else (none)
def carillonlaw08_TlvFinds.l3 (k : Nat) (lc1 : (List (S26)) → Int → Int → Option (Bool)) : Nat → (List (S26)) → Int → Bool → Int → Option (Bool)
  | 0, _, _, _, _ => none
  | n3 + 1, y3_0, x3_1, x3_9, x3_10 => if x3_10 < (y3_0.length : Int) then (if x3_9 = true then (carillonlaw08_TlvFinds.l3 k lc1 n3 y3_0 x3_1 true (wrap64 (x3_10 + 1))) else (if 0 ≤ x3_10 then (carillonlaw08_TlvFinds.l3 k lc1 n3 y3_0 x3_1 (decide (((rd_T26 y3_0 x3_10).f0) = x3_1)) (wrap64 (x3_10 + 1))) else (none))) else ((tlv_Find.f k y3_0 x3_1).bind fun t3006 => (if (t3006.2.2 == x3_9) = true then (if t3006.2.2 = true then ((carillonlaw08_awake.f k ).bind fun t3014 => (some t3014)) else (if ((t3006.1 == 0) && (t3006.2.1.toList == (⟨#[]⟩ : ByteArray).toList)) = true then ((carillonlaw08_awake.f k ).bind fun t3014 => (some t3014)) else (some false))) else (some false)))
def carillonlaw08_TlvFinds.l1 (k : Nat) : Nat → (List (S26)) → Int → Int → Option (Bool)
  | 0, _, _, _ => none
  | n1 + 1, y1_0, x1_1, x1_5 => if x1_5 < (y1_0.length : Int) then ((carillonlaw00_Tlvs.f y1_0).bind fun t1007 => (if 0 ≤ x1_5 then ((tlv_Find.f k t1007 ((rd_T26 y1_0 x1_5).f0)).bind fun t1008 => (carillonlaw08_TlvFinds.l2 k (carillonlaw08_TlvFinds.l1 k n1) k y1_0 x1_1 x1_5 t1008.1 t1008.2.1 t1008.2.2 0)) else (none))) else (carillonlaw08_TlvFinds.l3 k (carillonlaw08_TlvFinds.l1 k n1) k y1_0 x1_1 false 0)
def carillonlaw08_TlvFinds.f (k : Nat) (l0 : List (S26)) (a1 : Int) : Option (Bool) := (carillonlaw08_few.f k l0).bind fun t6 => (if t6 = true then (carillonlaw08_TlvFinds.l1 k k l0 a1 0) else ((carillonlaw08_awake.f k ).bind fun t10 => (some t10)))
open Go.Proofs.Ytgmiokocipmbaaa.E in
set_option maxRecDepth 100000 in
theorem carillonlaw08_TlvFinds.eql26 (x y : Operand) (w : World) (a0 : Int) (a1 : ByteArray) (b0 : Int) (b1 : ByteArray) : (do eqGuard .eql 26 x y (.agg #[.int .i64 a0, .string a1]) (.agg #[.int .i64 b0, .string b1]); binOp .eql 26 (.agg #[.int .i64 a0, .string a1]) (.agg #[.int .i64 b0, .string b1]) : Sem Value).run Try.prog w = .ok (.bool ((a0 == b0) && (a1.toList == b1.toList))) w := by
  have hu3 := Try.underlying3
  have hu9 := Try.underlying9
  have hu26 := Try.underlying26
  conv => lhs; simp [eqGuard, go_sem, hu3, hu9, hu26]
  exact ite_and (ite_last)
open Go.Proofs.Ytgmiokocipmbaaa.E in
set_option maxRecDepth 100000 in
theorem carillonlaw08_TlvFinds.neq26 (x y : Operand) (w : World) (a0 : Int) (a1 : ByteArray) (b0 : Int) (b1 : ByteArray) : (do eqGuard .neq 26 x y (.agg #[.int .i64 a0, .string a1]) (.agg #[.int .i64 b0, .string b1]); binOp .neq 26 (.agg #[.int .i64 a0, .string a1]) (.agg #[.int .i64 b0, .string b1]) : Sem Value).run Try.prog w = .ok (.bool (!((a0 == b0) && (a1.toList == b1.toList)))) w := by
  have hu3 := Try.underlying3
  have hu9 := Try.underlying9
  have hu26 := Try.underlying26
  conv => lhs; simp [eqGuard, go_sem, hu3, hu9, hu26]
  exact ite_nand (ite_nlast)
open Go.Proofs.Ytgmiokocipmbaaa.E in
theorem carillonlaw08_TlvFinds.flat26 : Flat k26 (fun x => [.int .i64 x.f0, .string x.f1]) := ⟨fun w x cs h => k26_open h, fun w base x => k26_mkM w base _ x⟩
open Go.Proofs.Ytgmiokocipmbaaa.E in
set_option maxHeartbeats 60000000 in
set_option maxRecDepth 100000 in
theorem carillonlaw08_TlvFinds.calls (k : Nat) (A0 : Option Addr) (bL : Nat) (l0 : List (S26)) (a1 : Int) (w : World) (HR0 : Kd.C k26 w A0 l0.length l0) (HC0 : l0.length ≤ bL) (h : carillonlaw08_TlvFinds.f k l0 a1 = some true) :
    Calls Try.prog 3 #[.slice A0 l0.length bL, .int .i64 a1] w fun e w' => e = .returned (.bool true) ∧ Below w.heap.size w w' := by
 have H := h
 clear h
 unfold carillonlaw08_TlvFinds.f at H
 obtain ⟨t6, dk, H⟩ := Option.bind_eq_some_iff.mp H
 by_cases c1 : t6 = true
 rotate_left
 ·rw [if_neg c1] at H
  obtain ⟨cg, dr, H⟩ := Option.bind_eq_some_iff.mp H
  have hret := Option.some.inj H
  clear H
  refine calls_of_wp (fn := Try.f3) (by kernel_rfl) rfl ?_
  have hS := St.enter #[.slice A0 l0.length bL, .int .i64 a1] 93 (by simp) [(0, .slice A0 l0.length bL), (1, .int .i64 a1)] (by simp)
  have cp := Below.refl w.heap.size w
  refine wp_seq_k (fun K1 cD => ?_)
  refine reg_seq (I := I1_ w) (ps := [VB false]) (by kernel_rfl) ?_ ?_ rfl hS cp ?_ ?_
  ·exact bs1
  ·exact .v (.nil)
  ·refine .on rfl (fun a w hS hI hp => does_val (x_assign rfl (rfl)) rfl) ?_
   exact .nil
  clear hS
  intro dx w3 hS cS hp
  clear hp
  refine cD _ _ ?_
  refine wp_seq_k (fun K4 dl => ?_)
  refine wp_seq_k (fun K5 cJ => ?_)
  refine reg_seq (I := I2_ w w3) (ps := [IsV (.slice A0 l0.length bL), VB t6, VB (!t6)]) (by kernel_rfl) ?_ ?_ rfl hS ⟨cS, (bR w3)⟩ ?_ ?_
  ·exact bs2
  ·exact .v (.v (.v (.nil)))
  ·refine .ms 0 rfl rfl rfl ?_
   refine .on rfl (fun a w hS hI hp => does_call (by kernel_rfl) (ar1 (hp.V 0 rfl rfl)) ((carillonlaw08_few.calls k _ _ l0 t6 _ (Kd.C_below HR0 hI.1) HC0 dk).mono fun _ _ h => ⟨_, h.1, h.2.below, rfl⟩)) ?_
   refine .on rfl (fun a w hS hI hp => does_val (x_not rfl (hp.V 1 rfl rfl)) rfl) ?_
   exact .nil
  clear hS
  intro dB w8 hS cT hp
  have bt : sl _ 15 = .bool (!t6) := hp 2 (by decide)
  have hS := hS.cons bt
  clear hp bt
  refine cJ _ _ ?_
  refine wp_cond_true ((hS.get 0 rfl).trans (bT (congrArg (!·) (Bool.eq_false_iff.2 c1)))) ?_
  refine wp_seq_k (fun K9 cK => ?_)
  refine reg_seq (I := I2_ w w8) (ps := [VB cg, VB cg]) (by kernel_rfl) ?_ ?_ rfl hS ⟨cT.1, (bR w8)⟩ ?_ ?_
  ·exact bs2
  ·exact .v (.v (.nil))
  ·refine .on rfl (fun a w hS hI hp => does_call (by kernel_rfl) rfl ((carillonlaw08_awake.calls k  cg _  dr).mono fun _ _ h => ⟨_, h.1, h.2, rfl⟩)) ?_
   refine .asg 0 rfl rfl rfl rfl ?_
   exact .nil
  clear hS
  intro ds dD hS ce hp
  replace hS := hS.nil
  have bc : sl _ 4 = .bool cg := hp 1 (by decide)
  have hS := hS.cons bc
  clear hp bc
  refine cK _ _ ?_
  refine wp_ret ?_
  (try simp only [Exit.then, Exit.inBlock, Exit.jump, Exit.noGoto])
  exact bodyPost_ret (v := .bool true) (by rw [results_tmp rfl]; exact congrArg (Result.ok · _) ((hS.get 0 rfl).trans (congrArg Value.bool hret))) hS.nodef ⟨rfl, ce.1⟩
 rw [if_pos c1] at H
 refine calls_of_wp (fn := Try.f3) (by kernel_rfl) rfl ?_
 have hS := St.enter #[.slice A0 l0.length bL, .int .i64 a1] 93 (by simp) [(0, .slice A0 l0.length bL), (1, .int .i64 a1)] (by simp)
 have cp := Below.refl w.heap.size w
 refine wp_seq_k (fun K1 cD => ?_)
 refine reg_seq (I := I1_ w) (ps := [VB false]) (by kernel_rfl) ?_ ?_ rfl hS cp ?_ ?_
 ·exact bs1
 ·exact .v (.nil)
 ·refine .on rfl (fun a w hS hI hp => does_val (x_assign rfl (rfl)) rfl) ?_
  exact .nil
 clear hS
 intro dx w3 hS cS hp
 clear hp
 refine cD _ _ ?_
 refine wp_seq_k (fun K4 dl => ?_)
 refine wp_seq_k (fun K5 cJ => ?_)
 refine reg_seq (I := I2_ w w3) (ps := [IsV (.slice A0 l0.length bL), VB t6, VB (!t6)]) (by kernel_rfl) ?_ ?_ rfl hS ⟨cS, (bR w3)⟩ ?_ ?_
 ·exact bs2
 ·exact .v (.v (.v (.nil)))
 ·refine .ms 0 rfl rfl rfl ?_
  refine .on rfl (fun a w hS hI hp => does_call (by kernel_rfl) (ar1 (hp.V 0 rfl rfl)) ((carillonlaw08_few.calls k _ _ l0 t6 _ (Kd.C_below HR0 hI.1) HC0 dk).mono fun _ _ h => ⟨_, h.1, h.2.below, rfl⟩)) ?_
  refine .on rfl (fun a w hS hI hp => does_val (x_not rfl (hp.V 1 rfl rfl)) rfl) ?_
  exact .nil
 clear hS
 intro dB w8 hS cT hp
 have bt : sl _ 15 = .bool (!t6) := hp 2 (by decide)
 have hS := hS.cons bt
 clear hp bt
 refine cJ _ _ ?_
 refine wp_cond_false ((hS.get 0 rfl).trans (bF (congrArg (!·) c1))) ?_
 refine wp_skip ?_
 refine dl _ _ ?_
 refine wp_seq_k (fun K9 cK => ?_)
 refine wp_seq_k (fun dM dt => ?_)
 refine reg_seq (I := I2_ w w8) (ps := [VI 0]) (by kernel_rfl) ?_ ?_ rfl hS ⟨cT.1, (bR w8)⟩ ?_ ?_
 ·exact bs2
 ·exact .v (.nil)
 ·refine .on rfl (fun a w hS hI hp => does_val (x_assign rfl (rfl)) rfl) ?_
  exact .nil
 clear hS
 intro ds dD hS ce hp
 replace hS := ((hS.nil).cons (hS.get 2 rfl)).cons (hS.get 1 rfl)
 have dm : sl _ 5 = .int .i64 0 := hp 0 (by decide)
 have hS := hS.cons dm
 clear hp dm
 refine dt _ _ ?_
 refine wp_block ?_
 replace hS := (((hS.nil).cons (hS.get 0 rfl)).cons (hS.get 2 rfl)).cons (hS.get 1 rfl)
 refine wp_loop_ghost (fun n_ a_ bO => ∃ (ai : List (S26)) (aE : Option Addr) (aF : Nat) (bI aj : Int), carillonlaw08_TlvFinds.l1 k n_ ai bI aj = some true ∧ St 93 [(0, .slice aE ai.length aF), (1, .int .i64 bI), (5, .int .i64 aj)] a_ ∧ Below w.heap.size w bO ∧ ai.length ≤ aF ∧ Kd.C k26 w aE ai.length ai) k ⟨l0, A0, bL, a1, 0, H, hS, ce.1, HC0, (HR0)⟩ ?_
 clear H hS
 rintro n1 dN bO ⟨ai, aE, aF, bI, aj, H, hS, bM, bU, a9⟩
 rcases n1 with _ | n1
 ·exact absurd H (by simp [carillonlaw08_TlvFinds.l1])
 rw [carillonlaw08_TlvFinds.l1] at H
 (try dsimp only at H)
 by_cases c2 : aj < (ai.length : Int)
 ·rw [if_pos c2] at H
  obtain ⟨bV, cn, H⟩ := Option.bind_eq_some_iff.mp H
  by_cases c3 : 0 ≤ aj
  rotate_left
  ·rw [if_neg c3] at H
   exact absurd H (by simp)
  rw [if_pos c3] at H
  obtain ⟨de, co, H⟩ := Option.bind_eq_some_iff.mp H
  obtain ⟨au, av, ak⟩ := de
  (try dsimp only at H)
  refine wp_seq_k (fun cZ b5 => ?_)
  refine wp_seq_k (fun c0 bm => ?_)
  refine reg_seq (I := I2_ w bO) (ps := [VI aj, IsV (.slice aE ai.length aF), VI (ai.length : Int), VB (decide (aj < (ai.length : Int)))]) (by kernel_rfl) ?_ ?_ rfl hS ⟨bM, (bR bO)⟩ ?_ ?_
  ·exact bs2
  ·exact .v (.v (.v (.v (.nil))))
  ·refine .ms 2 rfl rfl rfl ?_
   refine .ms 0 rfl rfl rfl ?_
   refine .on rfl (fun a w hS hI hp => does_val (x_len (e := 26) rfl (by kernel_rfl) (hp.V 1 rfl rfl)) rfl) ?_
   refine .on rfl (fun a w hS hI hp => does_val (x_bin rfl (hp.V 0 rfl rfl) (hp.V 2 rfl rfl) (b_lss _ _ _ _ _ _)) rfl) ?_
   exact .nil
  clear hS
  intro cq aP hS aY hp
  have bu : sl _ 20 = .bool (decide (aj < (ai.length : Int))) := hp 3 (by decide)
  have hS := hS.cons bu
  clear hp bu
  refine bm _ _ ?_
  refine wp_cond_true ((hS.get 0 rfl).trans (bT (decide_eq_true c2))) ?_
  refine wp_skip ?_
  refine b5 _ _ ?_
  refine wp_seq_k (fun da bn => ?_)
  refine wp_block ?_
  refine wp_seq_k (fun dE cE => ?_)
  refine reg_mixed (I := I2_ w aP) (ps := [IsV (.slice aE ai.length aF), IsR k26 26 aP.heap.size bV, IsV (.slice aE ai.length aF), VI aj, IsAT [.int .i64 ((rd_T26 ai aj).f0), .string ((rd_T26 ai aj).f1)], IsAT [.int .i64 ((rd_T26 ai aj).f0)], VI ((rd_T26 ai aj).f0), IsV (.tuple #[.agg #[.int .i64 au, .string av], .bool ak]), IsV (.tuple #[.agg #[.int .i64 au, .string av], .bool ak]), IsV (.agg #[.int .i64 au, .string av]), VB ak, IsB #[.int .i64 0, .string (⟨#[]⟩ : ByteArray)] 26 aP.heap.size]) (C := fun x => True) 12 [true, true, true, true, true, true, true, true, true, true, true, true, false, false] [false, false, false, false, false, false, false, false, false, false, true, false, false, false] [undef, undef, undef, undef, undef, undef, undef, undef, undef, undef, .bool ak, undef, undef, undef] [0, 1, 0, 0, 12, 28, 60, 127, 255, 511, 511, 0, 3071, 8191] (by kernel_rfl) (by kernel_rfl) (by kernel_rfl) (by kernel_rfl) rfl ?_ ?_ rfl hS ⟨aY.1, (bR aP)⟩ (.t (.t (.t (.t (.t (.t (.t (.t (.t (.t (.g (.t (.f (.f .nil)))))))))))))) ?_ ?_ ?_ ?_
  ·exact bs2
  ·exact .v (.cons (Stays.r _ _ _ _) (.v (.v (.cons (Stays.at_ _) (.cons (Stays.at_ _) (.v (.v (.v (.v (.v (.cons (Stays.b _ _ _) (.nil))))))))))))
  ·refine .ms 1 rfl rfl rfl ?_
   refine .on rfl (fun a w hS hI hp => does_call (by kernel_rfl) (ar1 (hp.V 0 rfl rfl)) ((carillonlaw00_Tlvs.calls _ _ ai bV _ (Kd.C_below a9 hI.1) bU cn).mono fun _ _ h => h.elim fun v0 h => ⟨v0, h.1, h.2.2, Kd.R_lower h.2.1 hI.2.size⟩)) ?_
   refine .ms 1 rfl rfl rfl ?_
   refine .ms 3 rfl rfl rfl ?_
   refine .on rfl (fun a w hS hI hp => does_indexT carillonlaw08_TlvFinds.flat26 (e := 26) (xs := ai) (i := aj) z26 rfl (hp.V 2 rfl rfl) (hp.V 3 rfl rfl) (by kernel_rfl) (by kernel_rfl) c3 c2 c2 (by decide) ((Kd.C_below a9 hI.1))) ?_
   refine .on rfl (fun a w hS hI hp => does_fieldT (cs := [.int .i64 ((rd_T26 ai aj).f0), .string ((rd_T26 ai aj).f1)]) (off := 0) rfl (hp.V 4 rfl rfl) Try.underlying26 rfl rfl (by kernel_rfl) rfl) ?_
   refine .on rfl (fun a w hS hI hp => does_loadA (d := .int .i64) rfl (hp.V 5 rfl rfl) (by kernel_rfl) rfl) ?_
   refine .on rfl (fun a w hS hI hp => (IsC.of_r (hp.V 1 rfl rfl)).elim fun A_ h_ => h_.elim fun c_ h_ => h_.elim fun hv_ h_ => h_.elim fun hl_ hc_ => does_call (by kernel_rfl) (ar2 (hv_) (hp.V 6 rfl rfl)) ((tlv_Find.calls k _ _ bV ((rd_T26 ai aj).f0) au av ak _ hc_ hl_ co).mono fun _ _ h => ⟨_, h.1, h.2, rfl⟩)) ?_
   refine .mv 7 rfl rfl rfl rfl ?_
   iterate 2 refine .on rfl (fun a w hS hI hp => does_val (x_extract rfl (hp.V 8 rfl rfl) rfl) rfl) ?_
   refine .on rfl (fun a w hS hI hp => does_var (x_alloc rfl (by kernel_rfl)) (hI.2).size) ?_
   exact .nil
  ·exact fun a x hS hI hp => trivial
  ·intro a x hS hI hp
   iterate 10 refine .t ?_
   refine .g (fun w hC => GRun.on rfl (x_extract rfl ((show sl _ 23 = .tuple #[.agg #[.int .i64 au, .string av], .bool ak] from hp 8 (by decide))) rfl)) ?_
   iterate 3 refine .t ?_
   exact .nil
  clear hS
  intro cr ci hS aQ hp
  replace hS := (((hS.nil).cons (hS.get 3 rfl)).cons (hS.get 2 rfl)).cons (hS.get 1 rfl)
  have cN : sl _ 32 = .agg #[.int .i64 au, .string av] := hp 9 (by decide)
  have cO : sl _ 33 = .bool ak := hp 10 (by decide)
  obtain ⟨bi, dn, a8, bq⟩ := (show IsB _ 26 _ (sl _ 6) _ from hp 11 (by decide))
  have hS := hS.cons cN
  have hS := hS.cons cO
  have hS := hS.cons dn
  clear hp cN cO dn
  show ListC _ _ _ _ [_, _] _ _
  refine lc_step rfl (does_storeAll (g := bi) (cs := #[.int .i64 au, .string av]) rfl (hS.get 0 rfl) (hS.get 2 rfl) (((bR ci).block bi (blk_lt bq)).trans bq) (by kernel_rfl) (by kernel_rfl) (by kernel_rfl)) ?_
  rintro dC cj ⟨rfl, br, hT⟩
  have bZ := hT.below aQ.1 (Nat.le_trans (aY.1).size a8) (aQ.1).size
  have bd := hT.below aQ.2 a8 (aQ.2).size
  clear hT
  refine ⟨trivial, ?_⟩
  refine lc_step rfl (R := fun v w' => Below _ _ w' ∧ (VB ak) v w') (does_val (x_assign rfl (hS.get 1 rfl)) rfl) ?_
  rintro cU ck ⟨hb, he⟩
  have b2 := below_step bZ hb
  have be := below_step bd hb
  have bf := below_step (bR cj) hb
  obtain rfl : cU = .bool ak := he
  refine ⟨trivial, ?_⟩
  refine hS.nextC (v := .bool ak) (d := 7) rfl (by decide) (by rfl) ?_
  clear hS
  intro dv hS
  refine lc_nil ?_
  refine cE _ _ ?_
  refine wp_seq_k (fun dH cG => ?_)
  refine reg_seq (I := I4_ w aP cj ck) (ps := [VI 0]) (by kernel_rfl) ?_ ?_ rfl hS ⟨b2, be, bf, (bR ck)⟩ ?_ ?_
  ·exact bs4
  ·exact .v (.nil)
  ·refine .on rfl (fun a w hS hI hp => does_val (x_assign rfl (rfl)) rfl) ?_
   exact .nil
  clear hS
  intro dw dK hS b9 hp
  replace hS := (((((hS.nil).cons (hS.get 6 rfl)).cons (hS.get 5 rfl)).cons (hS.get 4 rfl)).cons (hS.get 1 rfl)).cons (hS.get 0 rfl)
  have dp : sl _ 8 = .int .i64 0 := hp 0 (by decide)
  have hS := hS.cons dp
  clear hp dp
  refine cG _ _ ?_
  refine wp_seq_k (fun dI cH => ?_)
  refine wp_block ?_
  replace hS := ((((((hS.nil).cons (hS.get 0 rfl)).cons (hS.get 1 rfl)).cons (hS.get 2 rfl)).cons (hS.get 5 rfl)).cons (hS.get 4 rfl)).cons (hS.get 3 rfl)
  refine wp_loop_ghost (fun n_ a_ a5 => ∃ (aa : List (S26)) (az : Option Addr) (aA : Nat) (bJ ah an : Int) (ao : ByteArray) (aR : Nat) (a2 : Bool) (ac : Int), carillonlaw08_TlvFinds.l2 k (carillonlaw08_TlvFinds.l1 k n1) n_ aa bJ ah an ao a2 ac = some true ∧ St 93 [(0, .slice az aa.length aA), (1, .int .i64 bJ), (5, .int .i64 ah), (6, .pointer (some ⟨aR, 0, none⟩)), (7, .bool a2), (8, .int .i64 ac)] a_ ∧ Below w.heap.size w a5 ∧ aa.length ≤ aA ∧ Kd.C k26 w az aa.length aa ∧ w.heap.size ≤ aR ∧ a5.heap[aR]? = some (.cells #[.int .i64 an, .string ao] 26 (0, 0))) k ⟨ai, aE, aF, bI, aj, au, av, bi, ak, 0, H, hS, b9.1, bU, (a9), (Nat.le_trans (aY.1).size a8), ((b9.2.2.1.block bi (blk_lt br)).trans br)⟩ ?_
  clear H hS
  rintro n2 dO a5 ⟨aa, az, aA, bJ, ah, an, ao, aR, a2, ac, H, hS, bN, cf, aL, b8, aO⟩
  rcases n2 with _ | n2
  ·exact absurd H (by simp [carillonlaw08_TlvFinds.l2])
  rw [carillonlaw08_TlvFinds.l2] at H
  (try dsimp only at H)
  by_cases c4 : 0 ≤ ac
  rotate_left
  ·rw [if_neg c4] at H
   exact absurd H (by simp)
  rw [if_pos c4] at H
  by_cases c5 : ac < (aa.length : Int)
  rotate_left
  ·rw [if_neg c5] at H
   exact absurd H (by simp)
  rw [if_pos c5] at H
  by_cases c6 : 0 ≤ ah
  rotate_left
  ·rw [if_neg c6] at H
   exact absurd H (by simp)
  rw [if_pos c6] at H
  by_cases c7 : ah < (aa.length : Int)
  rotate_left
  ·rw [if_neg c7] at H
   exact absurd H (by simp)
  rw [if_pos c7] at H
  by_cases c8 : ((rd_T26 aa ac).f0) = ((rd_T26 aa ah).f0)
  rotate_left
  ·rw [if_neg c8] at H
   refine wp_seq_k (fun db b7 => ?_)
   refine wp_seq_k (fun dc bo => ?_)
   refine reg_any (I := I2_ w a5) (ps := [IsV (.slice az aa.length aA), VI ac, IsAT [.int .i64 ((rd_T26 aa ac).f0), .string ((rd_T26 aa ac).f1)], IsAT [.int .i64 ((rd_T26 aa ac).f0)], VI ((rd_T26 aa ac).f0), IsV (.slice az aa.length aA), VI ah, IsAT [.int .i64 ((rd_T26 aa ah).f0), .string ((rd_T26 aa ah).f1)], IsAT [.int .i64 ((rd_T26 aa ah).f0)], VI ((rd_T26 aa ah).f0), VB (!decide (((rd_T26 aa ac).f0) = ((rd_T26 aa ah).f0)))]) (by kernel_rfl) (by kernel_rfl) ?_ ?_ rfl hS ⟨bN, (bR a5)⟩ ?_ ?_
   ·exact bs2
   ·exact .v (.v (.cons (Stays.at_ _) (.cons (Stays.at_ _) (.v (.v (.v (.cons (Stays.at_ _) (.cons (Stays.at_ _) (.v (.v (.nil)))))))))))
   ·refine .ms 0 rfl rfl rfl ?_
    refine .ms 5 rfl rfl rfl ?_
    refine .on rfl (fun a w hS hI hp => does_indexT carillonlaw08_TlvFinds.flat26 (e := 26) (xs := aa) (i := ac) z26 rfl (hp.V 0 rfl rfl) (hp.V 1 rfl rfl) (by kernel_rfl) (by kernel_rfl) c4 c5 c5 (by decide) ((Kd.C_below aL hI.1))) ?_
    refine .on rfl (fun a w hS hI hp => does_fieldT (cs := [.int .i64 ((rd_T26 aa ac).f0), .string ((rd_T26 aa ac).f1)]) (off := 0) rfl (hp.V 2 rfl rfl) Try.underlying26 rfl rfl (by kernel_rfl) rfl) ?_
    refine .on rfl (fun a w hS hI hp => does_loadA (d := .int .i64) rfl (hp.V 3 rfl rfl) (by kernel_rfl) rfl) ?_
    refine .ms 0 rfl rfl rfl ?_
    refine .ms 2 rfl rfl rfl ?_
    refine .on rfl (fun a w hS hI hp => does_indexT carillonlaw08_TlvFinds.flat26 (e := 26) (xs := aa) (i := ah) z26 rfl (hp.V 5 rfl rfl) (hp.V 6 rfl rfl) (by kernel_rfl) (by kernel_rfl) c6 c7 c7 (by decide) ((Kd.C_below aL hI.1))) ?_
    refine .on rfl (fun a w hS hI hp => does_fieldT (cs := [.int .i64 ((rd_T26 aa ah).f0), .string ((rd_T26 aa ah).f1)]) (off := 0) rfl (hp.V 7 rfl rfl) Try.underlying26 rfl rfl (by kernel_rfl) rfl) ?_
    refine .on rfl (fun a w hS hI hp => does_loadA (d := .int .i64) rfl (hp.V 8 rfl rfl) (by kernel_rfl) rfl) ?_
    refine .on rfl (fun a w hS hI hp => does_val (x_bin rfl (hp.V 4 rfl rfl) (hp.V 9 rfl rfl) (b_neq _ _ _ _ _ _)) rfl) ?_
    exact .nil
   clear hS
   intro ct ba hS aZ hp
   have bv : sl _ 44 = .bool (!decide (((rd_T26 aa ac).f0) = ((rd_T26 aa ah).f0))) := hp 10 (by decide)
   have hS := hS.cons bv
   clear hp bv
   refine bo _ _ ?_
   refine wp_cond_true ((hS.get 0 rfl).trans (bT (congrArg (!·) (decide_eq_false c8)))) ?_
   refine wp_skip ?_
   refine b7 _ _ ?_
   refine wp_block ?_
   refine reg_seq_tail 2 (I := I3_ w a5 ba) (ps := [VI ac, VI (wrap64 (ac + 1))]) (by kernel_rfl) ?_ ?_ rfl hS ⟨aZ.1, aZ.2, (bR ba)⟩ ?_ ?_
   ·exact bs3
   ·exact .v (.v (.nil))
   ·refine .ms 6 rfl rfl rfl ?_
    refine .on rfl (fun a w hS hI hp => does_val (x_bin rfl (hp.V 0 rfl rfl) (rfl) (b_add _ _ _ _ _)) rfl) ?_
    exact .nil
   clear hS
   intro dy dg hS ca hp
   replace hS := ((((((hS.nil).cons (hS.get 6 rfl)).cons (hS.get 5 rfl)).cons (hS.get 4 rfl)).cons (hS.get 3 rfl)).cons (hS.get 2 rfl)).cons (hS.get 1 rfl)
   have cP : sl _ 46 = .int .i64 (wrap64 (ac + 1)) := hp 1 (by decide)
   have hS := hS.cons cP
   clear hp cP
   show wpList _ _ _ [_] _ _
   refine list_step rfl (R := fun v w' => Below _ _ w' ∧ (VI (wrap64 (ac + 1))) v w') (does_val (x_assign rfl (hS.get 0 rfl)) rfl) ?_
   rintro cV bW ⟨hb, he⟩
   have b3 := below_step ca.1 hb
   have bK := below_step ca.2.1 hb
   have cl := below_step (bR dg) hb
   obtain rfl : cV = .int .i64 (wrap64 (ac + 1)) := he
   replace hS := ((((((hS.nil).cons (hS.get 5 rfl)).cons (hS.get 4 rfl)).cons (hS.get 3 rfl)).cons (hS.get 2 rfl)).cons (hS.get 1 rfl)).cons (hS.get 0 rfl)
   refine hS.next (v := .int .i64 (wrap64 (ac + 1))) (d := 8) rfl (by decide) (by rfl) ?_
   clear hS
   intro cu hS
   refine wpList_nil ?_
   replace hS := ((((((hS.nil).cons (hS.get 0 rfl)).cons (hS.get 6 rfl)).cons (hS.get 5 rfl)).cons (hS.get 4 rfl)).cons (hS.get 3 rfl)).cons (hS.get 2 rfl)
   (try simp only [Exit.then, Exit.inBlock])
   exact ⟨n2, Nat.lt_succ_self _, aa, az, aA, bJ, ah, an, ao, aR, a2, wrap64 (ac + 1), H, hS, b3, cf, (aL), b8, ((bK.block aR (blk_lt aO)).trans aO)⟩
  rw [if_pos c8] at H
  by_cases c9 : a2 = true
  rotate_left
  ·rw [if_neg c9] at H
   exact absurd H (by simp)
  rw [if_pos c9] at H
  by_cases cC : ((an == ((rd_T26 aa ac).f0)) && (ao.toList == ((rd_T26 aa ac).f1).toList)) = true
  rotate_left
  ·rw [if_neg cC] at H
   exact absurd H (by simp)
  rw [if_pos cC] at H
  refine wp_seq_k (fun db b7 => ?_)
  refine wp_seq_k (fun dc bo => ?_)
  refine reg_any (I := I2_ w a5) (ps := [IsV (.slice az aa.length aA), VI ac, IsAT [.int .i64 ((rd_T26 aa ac).f0), .string ((rd_T26 aa ac).f1)], IsAT [.int .i64 ((rd_T26 aa ac).f0)], VI ((rd_T26 aa ac).f0), IsV (.slice az aa.length aA), VI ah, IsAT [.int .i64 ((rd_T26 aa ah).f0), .string ((rd_T26 aa ah).f1)], IsAT [.int .i64 ((rd_T26 aa ah).f0)], VI ((rd_T26 aa ah).f0), VB (!decide (((rd_T26 aa ac).f0) = ((rd_T26 aa ah).f0)))]) (by kernel_rfl) (by kernel_rfl) ?_ ?_ rfl hS ⟨bN, (bR a5)⟩ ?_ ?_
  ·exact bs2
  ·exact .v (.v (.cons (Stays.at_ _) (.cons (Stays.at_ _) (.v (.v (.v (.cons (Stays.at_ _) (.cons (Stays.at_ _) (.v (.v (.nil)))))))))))
  ·refine .ms 0 rfl rfl rfl ?_
   refine .ms 5 rfl rfl rfl ?_
   refine .on rfl (fun a w hS hI hp => does_indexT carillonlaw08_TlvFinds.flat26 (e := 26) (xs := aa) (i := ac) z26 rfl (hp.V 0 rfl rfl) (hp.V 1 rfl rfl) (by kernel_rfl) (by kernel_rfl) c4 c5 c5 (by decide) ((Kd.C_below aL hI.1))) ?_
   refine .on rfl (fun a w hS hI hp => does_fieldT (cs := [.int .i64 ((rd_T26 aa ac).f0), .string ((rd_T26 aa ac).f1)]) (off := 0) rfl (hp.V 2 rfl rfl) Try.underlying26 rfl rfl (by kernel_rfl) rfl) ?_
   refine .on rfl (fun a w hS hI hp => does_loadA (d := .int .i64) rfl (hp.V 3 rfl rfl) (by kernel_rfl) rfl) ?_
   refine .ms 0 rfl rfl rfl ?_
   refine .ms 2 rfl rfl rfl ?_
   refine .on rfl (fun a w hS hI hp => does_indexT carillonlaw08_TlvFinds.flat26 (e := 26) (xs := aa) (i := ah) z26 rfl (hp.V 5 rfl rfl) (hp.V 6 rfl rfl) (by kernel_rfl) (by kernel_rfl) c6 c7 c7 (by decide) ((Kd.C_below aL hI.1))) ?_
   refine .on rfl (fun a w hS hI hp => does_fieldT (cs := [.int .i64 ((rd_T26 aa ah).f0), .string ((rd_T26 aa ah).f1)]) (off := 0) rfl (hp.V 7 rfl rfl) Try.underlying26 rfl rfl (by kernel_rfl) rfl) ?_
   refine .on rfl (fun a w hS hI hp => does_loadA (d := .int .i64) rfl (hp.V 8 rfl rfl) (by kernel_rfl) rfl) ?_
   refine .on rfl (fun a w hS hI hp => does_val (x_bin rfl (hp.V 4 rfl rfl) (hp.V 9 rfl rfl) (b_neq _ _ _ _ _ _)) rfl) ?_
   exact .nil
  clear hS
  intro ct ba hS aZ hp
  have bv : sl _ 44 = .bool (!decide (((rd_T26 aa ac).f0) = ((rd_T26 aa ah).f0))) := hp 10 (by decide)
  have hS := hS.cons bv
  clear hp bv
  refine bo _ _ ?_
  refine wp_cond_false ((hS.get 0 rfl).trans (bF (congrArg (!·) (decide_eq_true c8)))) ?_
  refine wp_exit ?_
  (try simp only [Exit.then, Exit.inBlock, reduceIte])
  refine cH _ _ ?_
  refine wp_seq_k (fun dJ cI => ?_)
  refine reg_any (I := I3_ w a5 ba) (ps := [VB a2, VB (!a2), VB (!a2), IsV (.agg #[.int .i64 an, .string ao]), IsV (.slice az aa.length aA), VI ac, IsAT [.int .i64 ((rd_T26 aa ac).f0), .string ((rd_T26 aa ac).f1)], IsV (.agg #[.int .i64 ((rd_T26 aa ac).f0), .string ((rd_T26 aa ac).f1)]), VB (!((an == ((rd_T26 aa ac).f0)) && (ao.toList == ((rd_T26 aa ac).f1).toList))), VB (!((an == ((rd_T26 aa ac).f0)) && (ao.toList == ((rd_T26 aa ac).f1).toList)))]) (by kernel_rfl) (by kernel_rfl) ?_ ?_ rfl hS ⟨aZ.1, aZ.2, (bR ba)⟩ ?_ ?_
  ·exact bs3
  ·exact .v (.v (.v (.v (.v (.v (.cons (Stays.at_ _) (.v (.v (.v (.nil))))))))))
  ·refine .ms 5 rfl rfl rfl ?_
   refine .on rfl (fun a w hS hI hp => does_val (x_not rfl (hp.V 0 rfl rfl)) rfl) ?_
   refine .mv 1 rfl rfl rfl rfl ?_
   refine .oy 2 49 rfl rfl rfl rfl rfl ((congrArg (!·) c9)) (fun a w hS hI hp => does_loadrow rfl (hS.get 4 rfl) (((hI.2.1).block aR (blk_lt aO)).trans aO) Try.underlying26 rfl (by kernel_rfl) rfl) ?_
   refine .oy 2 49 rfl rfl rfl rfl rfl ((congrArg (!·) c9)) (fun a w hS hI hp => does_val (x_move rfl (hS.get 1 rfl)) rfl) ?_
   refine .oy 2 49 rfl rfl rfl rfl rfl ((congrArg (!·) c9)) (fun a w hS hI hp => does_val (x_move rfl (hS.get 6 rfl)) rfl) ?_
   refine .oy 2 49 rfl rfl rfl rfl rfl ((congrArg (!·) c9)) (fun a w hS hI hp => does_indexT carillonlaw08_TlvFinds.flat26 (e := 26) (xs := aa) (i := ac) z26 rfl (hp.V 4 rfl rfl) (hp.V 5 rfl rfl) (by kernel_rfl) (by kernel_rfl) c4 c5 c5 (by decide) ((Kd.C_below aL hI.1))) ?_
   refine .oy 2 49 rfl rfl rfl rfl rfl ((congrArg (!·) c9)) (fun a w hS hI hp => does_loadT (cs := [.int .i64 ((rd_T26 aa ac).f0), .string ((rd_T26 aa ac).f1)]) rfl (hp.V 6 rfl rfl) Try.underlying26 rfl (by kernel_rfl)) ?_
   refine .oy 2 49 rfl rfl rfl rfl rfl ((congrArg (!·) c9)) (fun a w hS hI hp => does_val (x_bin rfl (hp.V 3 rfl rfl) (hp.V 7 rfl rfl) (carillonlaw08_TlvFinds.neq26 _ _ _ an ao ((rd_T26 aa ac).f0) ((rd_T26 aa ac).f1))) rfl) ?_
   refine .on rfl (fun a w hS hI hp => does_val (x_pickF rfl ((hp.V 2 rfl rfl).trans (bF (congrArg (!·) c9))) (hp.V 8 rfl rfl)) rfl) ?_
   exact .nil
  clear hS
  intro dz bW hS cb hp
  replace hS := (((hS.nil).cons (hS.get 3 rfl)).cons (hS.get 2 rfl)).cons (hS.get 1 rfl)
  have cQ : sl _ 56 = .bool (!((an == ((rd_T26 aa ac).f0)) && (ao.toList == ((rd_T26 aa ac).f1).toList))) := hp 9 (by decide)
  have hS := hS.cons cQ
  clear hp cQ
  refine cI _ _ ?_
  refine wp_cond_false ((hS.get 0 rfl).trans (bF (congrArg (!·) cC))) ?_
  refine wp_skip ?_
  refine bn _ _ ?_
  refine reg_seq_tail 2 (I := I3_ w a5 bW) (ps := [VI ah, VI (wrap64 (ah + 1))]) (by kernel_rfl) ?_ ?_ rfl hS ⟨cb.1, cb.2.1, (bR bW)⟩ ?_ ?_
  ·exact bs3
  ·exact .v (.v (.nil))
  ·refine .ms 3 rfl rfl rfl ?_
   refine .on rfl (fun a w hS hI hp => does_val (x_bin rfl (hp.V 0 rfl rfl) (rfl) (b_add _ _ _ _ _)) rfl) ?_
   exact .nil
  clear hS
  intro cu dh hS cc hp
  replace hS := (((hS.nil).cons (hS.get 3 rfl)).cons (hS.get 2 rfl)).cons (hS.get 1 rfl)
  have cM : sl _ 22 = .int .i64 (wrap64 (ah + 1)) := hp 1 (by decide)
  have hS := hS.cons cM
  clear hp cM
  show wpList _ _ _ [_] _ _
  refine list_step rfl (R := fun v w' => Below _ _ w' ∧ (VI (wrap64 (ah + 1))) v w') (does_val (x_assign rfl (hS.get 0 rfl)) rfl) ?_
  rintro cW dL ⟨hb, he⟩
  have b4 := below_step cc.1 hb
  have cY := below_step cc.2.1 hb
  have cm := below_step (bR dh) hb
  obtain rfl : cW = .int .i64 (wrap64 (ah + 1)) := he
  replace hS := (((hS.nil).cons (hS.get 2 rfl)).cons (hS.get 1 rfl)).cons (hS.get 0 rfl)
  refine hS.next (v := .int .i64 (wrap64 (ah + 1))) (d := 5) rfl (by decide) (by rfl) ?_
  clear hS
  intro dA hS
  refine wpList_nil ?_
  replace hS := (((hS.nil).cons (hS.get 0 rfl)).cons (hS.get 3 rfl)).cons (hS.get 2 rfl)
  (try simp only [Exit.then, Exit.inBlock])
  exact ⟨n1, Nat.lt_succ_self _, aa, az, aA, bJ, wrap64 (ah + 1), H, hS, b4, cf, (aL)⟩
 rw [if_neg c2] at H
 refine wp_seq_k (fun cZ b5 => ?_)
 refine wp_seq_k (fun c0 bm => ?_)
 refine reg_seq (I := I2_ w bO) (ps := [VI aj, IsV (.slice aE ai.length aF), VI (ai.length : Int), VB (decide (aj < (ai.length : Int)))]) (by kernel_rfl) ?_ ?_ rfl hS ⟨bM, (bR bO)⟩ ?_ ?_
 ·exact bs2
 ·exact .v (.v (.v (.v (.nil))))
 ·refine .ms 2 rfl rfl rfl ?_
  refine .ms 0 rfl rfl rfl ?_
  refine .on rfl (fun a w hS hI hp => does_val (x_len (e := 26) rfl (by kernel_rfl) (hp.V 1 rfl rfl)) rfl) ?_
  refine .on rfl (fun a w hS hI hp => does_val (x_bin rfl (hp.V 0 rfl rfl) (hp.V 2 rfl rfl) (b_lss _ _ _ _ _ _)) rfl) ?_
  exact .nil
 clear hS
 intro cq aP hS aY hp
 have bu : sl _ 20 = .bool (decide (aj < (ai.length : Int))) := hp 3 (by decide)
 have hS := hS.cons bu
 clear hp bu
 refine bm _ _ ?_
 refine wp_cond_false ((hS.get 0 rfl).trans (bF (decide_eq_false c2))) ?_
 refine wp_exit ?_
 (try simp only [Exit.then, Exit.inBlock, reduceIte])
 refine cK _ _ ?_
 refine wp_seq_k (fun da bn => ?_)
 refine reg_seq (I := I2_ w aP) (ps := [VB false]) (by kernel_rfl) ?_ ?_ rfl hS ⟨aY.1, (bR aP)⟩ ?_ ?_
 ·exact bs2
 ·exact .v (.nil)
 ·refine .on rfl (fun a w hS hI hp => does_val (x_assign rfl (rfl)) rfl) ?_
  exact .nil
 clear hS
 intro du ch hS cR hp
 replace hS := ((hS.nil).cons (hS.get 2 rfl)).cons (hS.get 1 rfl)
 have dq : sl _ 9 = .bool false := hp 0 (by decide)
 have hS := hS.cons dq
 clear hp dq
 refine bn _ _ ?_
 refine wp_seq_k (fun dF b6 => ?_)
 refine wp_seq_k (fun dG cF => ?_)
 refine reg_seq (I := I2_ w ch) (ps := [VI 0]) (by kernel_rfl) ?_ ?_ rfl hS ⟨cR.1, (bR ch)⟩ ?_ ?_
 ·exact bs2
 ·exact .v (.nil)
 ·refine .on rfl (fun a w hS hI hp => does_val (x_assign rfl (rfl)) rfl) ?_
  exact .nil
 clear hS
 intro cr ci hS aQ hp
 have cL : sl _ 10 = .int .i64 0 := hp 0 (by decide)
 have hS := hS.cons cL
 clear hp cL
 refine cF _ _ ?_
 refine wp_block ?_
 replace hS := ((((hS.nil).cons (hS.get 0 rfl)).cons (hS.get 1 rfl)).cons (hS.get 3 rfl)).cons (hS.get 2 rfl)
 refine wp_loop_ghost (fun n_ a_ a6 => ∃ (ae : List (S26)) (ap : Option Addr) (aq : Nat) (am : Int) (ar : Bool) (ab : Int), carillonlaw08_TlvFinds.l3 k (carillonlaw08_TlvFinds.l1 k n1) n_ ae am ar ab = some true ∧ St 93 [(0, .slice ap ae.length aq), (1, .int .i64 am), (9, .bool ar), (10, .int .i64 ab)] a_ ∧ Below w.heap.size w a6 ∧ ae.length ≤ aq ∧ Kd.C k26 w ap ae.length ae) k ⟨ai, aE, aF, bI, false, 0, H, hS, aQ.1, bU, (a9)⟩ ?_
 clear H hS
 rintro n3 dP a6 ⟨ae, ap, aq, am, ar, ab, H, hS, a4, bj, aX⟩
 rcases n3 with _ | n3
 ·exact absurd H (by simp [carillonlaw08_TlvFinds.l3])
 rw [carillonlaw08_TlvFinds.l3] at H
 (try dsimp only at H)
 by_cases c3 : ab < (ae.length : Int)
 ·rw [if_pos c3] at H
  by_cases c4 : ar = true
  ·rw [if_pos c4] at H
   refine wp_seq_k (fun bP aW => ?_)
   refine wp_seq_k (fun bQ aI => ?_)
   refine reg_seq (I := I2_ w a6) (ps := [VI ab, IsV (.slice ap ae.length aq), VI (ae.length : Int), VB (decide (ab < (ae.length : Int)))]) (by kernel_rfl) ?_ ?_ rfl hS ⟨a4, (bR a6)⟩ ?_ ?_
   ·exact bs2
   ·exact .v (.v (.v (.v (.nil))))
   ·refine .ms 3 rfl rfl rfl ?_
    refine .ms 0 rfl rfl rfl ?_
    refine .on rfl (fun a w hS hI hp => does_val (x_len (e := 26) rfl (by kernel_rfl) (hp.V 1 rfl rfl)) rfl) ?_
    refine .on rfl (fun a w hS hI hp => does_val (x_bin rfl (hp.V 0 rfl rfl) (hp.V 2 rfl rfl) (b_lss _ _ _ _ _ _)) rfl) ?_
    exact .nil
   clear hS
   intro bl al hS aw hp
   have aN : sl _ 60 = .bool (decide (ab < (ae.length : Int))) := hp 3 (by decide)
   have hS := hS.cons aN
   clear hp aN
   refine aI _ _ ?_
   refine wp_cond_true ((hS.get 0 rfl).trans (bT (decide_eq_true c3))) ?_
   refine wp_skip ?_
   refine aW _ _ ?_
   refine wp_seq_k (fun bS aJ => ?_)
   refine wp_block ?_
   refine reg_seq_tail 10 (I := I2_ w al) (ps := [VB ar, VB ar, VU, VU, VU, VU, VU, VU, VU, VB true]) (by kernel_rfl) ?_ ?_ rfl hS ⟨aw.1, (bR al)⟩ ?_ ?_
   ·exact bs2
   ·exact .v (.v (.v (.v (.v (.v (.v (.v (.v (.v (.nil))))))))))
   ·refine .ms 3 rfl rfl rfl ?_
    refine .mv 0 rfl rfl rfl rfl ?_
    iterate 7 refine .sn 1 64 rfl rfl rfl rfl rfl c4 ?_
    refine .on rfl (fun a w hS hI hp => does_val (x_pickT rfl ((hp.V 1 rfl rfl).trans (bT c4)) (rfl)) rfl) ?_
    exact .nil
   clear hS
   intro cv bX hS bB hp
   replace hS := ((((hS.nil).cons (hS.get 4 rfl)).cons (hS.get 3 rfl)).cons (hS.get 2 rfl)).cons (hS.get 1 rfl)
   have bx : sl _ 72 = .bool true := hp 9 (by decide)
   have hS := hS.cons bx
   clear hp bx
   show wpList _ _ _ [_] _ _
   refine list_step rfl (R := fun v w' => Below _ _ w' ∧ (VB true) v w') (does_val (x_assign rfl (hS.get 0 rfl)) rfl) ?_
   rintro bE aG ⟨hb, he⟩
   have aS := below_step bB.1 hb
   have bg := below_step (bR bX) hb
   obtain rfl : bE = .bool true := he
   replace hS := ((((hS.nil).cons (hS.get 4 rfl)).cons (hS.get 2 rfl)).cons (hS.get 1 rfl)).cons (hS.get 0 rfl)
   refine hS.next (v := .bool true) (d := 9) rfl (by decide) (by rfl) ?_
   clear hS
   intro cx hS
   refine wpList_nil ?_
   refine aJ _ _ ?_
   refine reg_seq_tail 2 (I := I2_ w aG) (ps := [VI ab, VI (wrap64 (ab + 1))]) (by kernel_rfl) ?_ ?_ rfl hS ⟨aS, (bR aG)⟩ ?_ ?_
   ·exact bs2
   ·exact .v (.v (.nil))
   ·refine .ms 4 rfl rfl rfl ?_
    refine .on rfl (fun a w hS hI hp => does_val (x_bin rfl (hp.V 0 rfl rfl) (rfl) (b_add _ _ _ _ _)) rfl) ?_
    exact .nil
   clear hS
   intro cy aH hS bC hp
   replace hS := ((((hS.nil).cons (hS.get 4 rfl)).cons (hS.get 3 rfl)).cons (hS.get 2 rfl)).cons (hS.get 0 rfl)
   have bw : sl _ 62 = .int .i64 (wrap64 (ab + 1)) := hp 1 (by decide)
   have hS := hS.cons bw
   clear hp bw
   show wpList _ _ _ [_] _ _
   refine list_step rfl (R := fun v w' => Below _ _ w' ∧ (VI (wrap64 (ab + 1))) v w') (does_val (x_assign rfl (hS.get 0 rfl)) rfl) ?_
   rintro bH di ⟨hb, he⟩
   have aV := below_step bC.1 hb
   have bh := below_step (bR aH) hb
   obtain rfl : bH = .int .i64 (wrap64 (ab + 1)) := he
   replace hS := ((((hS.nil).cons (hS.get 3 rfl)).cons (hS.get 2 rfl)).cons (hS.get 1 rfl)).cons (hS.get 0 rfl)
   refine hS.next (v := .int .i64 (wrap64 (ab + 1))) (d := 10) rfl (by decide) (by rfl) ?_
   clear hS
   intro cA hS
   refine wpList_nil ?_
   replace hS := ((((hS.nil).cons (hS.get 0 rfl)).cons (hS.get 2 rfl)).cons (hS.get 4 rfl)).cons (hS.get 3 rfl)
   (try simp only [Exit.then, Exit.inBlock])
   exact ⟨n3, Nat.lt_succ_self _, ae, ap, aq, am, true, wrap64 (ab + 1), H, hS, aV, bj, (aX)⟩
  rw [if_neg c4] at H
  by_cases c5 : 0 ≤ ab
  rotate_left
  ·rw [if_neg c5] at H
   exact absurd H (by simp)
  rw [if_pos c5] at H
  refine wp_seq_k (fun bP aW => ?_)
  refine wp_seq_k (fun bQ aI => ?_)
  refine reg_seq (I := I2_ w a6) (ps := [VI ab, IsV (.slice ap ae.length aq), VI (ae.length : Int), VB (decide (ab < (ae.length : Int)))]) (by kernel_rfl) ?_ ?_ rfl hS ⟨a4, (bR a6)⟩ ?_ ?_
  ·exact bs2
  ·exact .v (.v (.v (.v (.nil))))
  ·refine .ms 3 rfl rfl rfl ?_
   refine .ms 0 rfl rfl rfl ?_
   refine .on rfl (fun a w hS hI hp => does_val (x_len (e := 26) rfl (by kernel_rfl) (hp.V 1 rfl rfl)) rfl) ?_
   refine .on rfl (fun a w hS hI hp => does_val (x_bin rfl (hp.V 0 rfl rfl) (hp.V 2 rfl rfl) (b_lss _ _ _ _ _ _)) rfl) ?_
   exact .nil
  clear hS
  intro bl al hS aw hp
  have aN : sl _ 60 = .bool (decide (ab < (ae.length : Int))) := hp 3 (by decide)
  have hS := hS.cons aN
  clear hp aN
  refine aI _ _ ?_
  refine wp_cond_true ((hS.get 0 rfl).trans (bT (decide_eq_true c3))) ?_
  refine wp_skip ?_
  refine aW _ _ ?_
  refine wp_seq_k (fun bS aJ => ?_)
  refine wp_block ?_
  refine reg_seq_tail 10 (I := I2_ w al) (ps := [VB ar, VB ar, IsV (.slice ap ae.length aq), VI ab, IsAT [.int .i64 ((rd_T26 ae ab).f0), .string ((rd_T26 ae ab).f1)], IsAT [.int .i64 ((rd_T26 ae ab).f0)], VI ((rd_T26 ae ab).f0), VI am, VB (decide (((rd_T26 ae ab).f0) = am)), VB (decide (((rd_T26 ae ab).f0) = am))]) (by kernel_rfl) ?_ ?_ rfl hS ⟨aw.1, (bR al)⟩ ?_ ?_
  ·exact bs2
  ·exact .v (.v (.v (.v (.cons (Stays.at_ _) (.cons (Stays.at_ _) (.v (.v (.v (.v (.nil))))))))))
  ·refine .ms 3 rfl rfl rfl ?_
   refine .mv 0 rfl rfl rfl rfl ?_
   refine .oy 1 64 rfl rfl rfl rfl rfl ((Bool.eq_false_iff.2 c4)) (fun a w hS hI hp => does_val (x_move rfl (hS.get 1 rfl)) rfl) ?_
   refine .oy 1 64 rfl rfl rfl rfl rfl ((Bool.eq_false_iff.2 c4)) (fun a w hS hI hp => does_val (x_move rfl (hS.get 4 rfl)) rfl) ?_
   refine .oy 1 64 rfl rfl rfl rfl rfl ((Bool.eq_false_iff.2 c4)) (fun a w hS hI hp => does_indexT carillonlaw08_TlvFinds.flat26 (e := 26) (xs := ae) (i := ab) z26 rfl (hp.V 2 rfl rfl) (hp.V 3 rfl rfl) (by kernel_rfl) (by kernel_rfl) c5 c3 c3 (by decide) ((Kd.C_below aX hI.1))) ?_
   refine .oy 1 64 rfl rfl rfl rfl rfl ((Bool.eq_false_iff.2 c4)) (fun a w hS hI hp => does_fieldT (cs := [.int .i64 ((rd_T26 ae ab).f0), .string ((rd_T26 ae ab).f1)]) (off := 0) rfl (hp.V 4 rfl rfl) Try.underlying26 rfl rfl (by kernel_rfl) rfl) ?_
   refine .oy 1 64 rfl rfl rfl rfl rfl ((Bool.eq_false_iff.2 c4)) (fun a w hS hI hp => does_loadA (d := .int .i64) rfl (hp.V 5 rfl rfl) (by kernel_rfl) rfl) ?_
   refine .oy 1 64 rfl rfl rfl rfl rfl ((Bool.eq_false_iff.2 c4)) (fun a w hS hI hp => does_val (x_move rfl (hS.get 2 rfl)) rfl) ?_
   refine .oy 1 64 rfl rfl rfl rfl rfl ((Bool.eq_false_iff.2 c4)) (fun a w hS hI hp => does_val (x_bin rfl (hp.V 6 rfl rfl) (hp.V 7 rfl rfl) (b_eql _ _ _ _ _ _)) rfl) ?_
   refine .on rfl (fun a w hS hI hp => does_val (x_pickF rfl ((hp.V 1 rfl rfl).trans (bF (Bool.eq_false_iff.2 c4))) (hp.V 8 rfl rfl)) rfl) ?_
   exact .nil
  clear hS
  intro cv bX hS bB hp
  replace hS := ((((hS.nil).cons (hS.get 4 rfl)).cons (hS.get 3 rfl)).cons (hS.get 2 rfl)).cons (hS.get 1 rfl)
  have bx : sl _ 72 = .bool (decide (((rd_T26 ae ab).f0) = am)) := hp 9 (by decide)
  have hS := hS.cons bx
  clear hp bx
  show wpList _ _ _ [_] _ _
  refine list_step rfl (R := fun v w' => Below _ _ w' ∧ (VB (decide (((rd_T26 ae ab).f0) = am))) v w') (does_val (x_assign rfl (hS.get 0 rfl)) rfl) ?_
  rintro bE aG ⟨hb, he⟩
  have aS := below_step bB.1 hb
  have bg := below_step (bR bX) hb
  obtain rfl : bE = .bool (decide (((rd_T26 ae ab).f0) = am)) := he
  replace hS := ((((hS.nil).cons (hS.get 4 rfl)).cons (hS.get 2 rfl)).cons (hS.get 1 rfl)).cons (hS.get 0 rfl)
  refine hS.next (v := .bool (decide (((rd_T26 ae ab).f0) = am))) (d := 9) rfl (by decide) (by rfl) ?_
  clear hS
  intro cx hS
  refine wpList_nil ?_
  refine aJ _ _ ?_
  refine reg_seq_tail 2 (I := I2_ w aG) (ps := [VI ab, VI (wrap64 (ab + 1))]) (by kernel_rfl) ?_ ?_ rfl hS ⟨aS, (bR aG)⟩ ?_ ?_
  ·exact bs2
  ·exact .v (.v (.nil))
  ·refine .ms 4 rfl rfl rfl ?_
   refine .on rfl (fun a w hS hI hp => does_val (x_bin rfl (hp.V 0 rfl rfl) (rfl) (b_add _ _ _ _ _)) rfl) ?_
   exact .nil
  clear hS
  intro cy aH hS bC hp
  replace hS := ((((hS.nil).cons (hS.get 4 rfl)).cons (hS.get 3 rfl)).cons (hS.get 2 rfl)).cons (hS.get 0 rfl)
  have bw : sl _ 62 = .int .i64 (wrap64 (ab + 1)) := hp 1 (by decide)
  have hS := hS.cons bw
  clear hp bw
  show wpList _ _ _ [_] _ _
  refine list_step rfl (R := fun v w' => Below _ _ w' ∧ (VI (wrap64 (ab + 1))) v w') (does_val (x_assign rfl (hS.get 0 rfl)) rfl) ?_
  rintro bH di ⟨hb, he⟩
  have aV := below_step bC.1 hb
  have bh := below_step (bR aH) hb
  obtain rfl : bH = .int .i64 (wrap64 (ab + 1)) := he
  replace hS := ((((hS.nil).cons (hS.get 3 rfl)).cons (hS.get 2 rfl)).cons (hS.get 1 rfl)).cons (hS.get 0 rfl)
  refine hS.next (v := .int .i64 (wrap64 (ab + 1))) (d := 10) rfl (by decide) (by rfl) ?_
  clear hS
  intro cA hS
  refine wpList_nil ?_
  replace hS := ((((hS.nil).cons (hS.get 0 rfl)).cons (hS.get 2 rfl)).cons (hS.get 4 rfl)).cons (hS.get 3 rfl)
  (try simp only [Exit.then, Exit.inBlock])
  exact ⟨n3, Nat.lt_succ_self _, ae, ap, aq, am, decide (((rd_T26 ae ab).f0) = am), wrap64 (ab + 1), H, hS, aV, bj, (aX)⟩
 rw [if_neg c3] at H
 obtain ⟨df, bY, H⟩ := Option.bind_eq_some_iff.mp H
 obtain ⟨af, ag, ad⟩ := df
 (try dsimp only at H)
 by_cases c4 : (ad == ar) = true
 rotate_left
 ·rw [if_neg c4] at H
  exact absurd H (by simp)
 rw [if_pos c4] at H
 by_cases c5 : ad = true
 ·rw [if_pos c5] at H
  obtain ⟨ay, bk, H⟩ := Option.bind_eq_some_iff.mp H
  have hret := Option.some.inj H
  clear H
  refine wp_seq_k (fun bP aW => ?_)
  refine wp_seq_k (fun bQ aI => ?_)
  refine reg_seq (I := I2_ w a6) (ps := [VI ab, IsV (.slice ap ae.length aq), VI (ae.length : Int), VB (decide (ab < (ae.length : Int)))]) (by kernel_rfl) ?_ ?_ rfl hS ⟨a4, (bR a6)⟩ ?_ ?_
  ·exact bs2
  ·exact .v (.v (.v (.v (.nil))))
  ·refine .ms 3 rfl rfl rfl ?_
   refine .ms 0 rfl rfl rfl ?_
   refine .on rfl (fun a w hS hI hp => does_val (x_len (e := 26) rfl (by kernel_rfl) (hp.V 1 rfl rfl)) rfl) ?_
   refine .on rfl (fun a w hS hI hp => does_val (x_bin rfl (hp.V 0 rfl rfl) (hp.V 2 rfl rfl) (b_lss _ _ _ _ _ _)) rfl) ?_
   exact .nil
  clear hS
  intro bl al hS aw hp
  have aN : sl _ 60 = .bool (decide (ab < (ae.length : Int))) := hp 3 (by decide)
  have hS := hS.cons aN
  clear hp aN
  refine aI _ _ ?_
  refine wp_cond_false ((hS.get 0 rfl).trans (bF (decide_eq_false c3))) ?_
  refine wp_exit ?_
  (try simp only [Exit.then, Exit.inBlock, reduceIte])
  refine b6 _ _ ?_
  refine wp_seq_k (fun bS aJ => ?_)
  refine reg_seq_tail 7 (I := I2_ w al) (ps := [IsV (.slice ap ae.length aq), VI am, IsV (.tuple #[.agg #[.int .i64 af, .string ag], .bool ad]), IsV (.tuple #[.agg #[.int .i64 af, .string ag], .bool ad]), IsV (.agg #[.int .i64 af, .string ag]), VB ad, IsB #[.int .i64 0, .string (⟨#[]⟩ : ByteArray)] 26 al.heap.size]) (by kernel_rfl) ?_ ?_ rfl hS ⟨aw.1, (bR al)⟩ ?_ ?_
  ·exact bs2
  ·exact .v (.v (.v (.v (.v (.v (.cons (Stays.b _ _ _) (.nil)))))))
  ·refine .ms 1 rfl rfl rfl ?_
   refine .ms 2 rfl rfl rfl ?_
   refine .on rfl (fun a w hS hI hp => does_call (by kernel_rfl) (ar2 (hp.V 0 rfl rfl) (hp.V 1 rfl rfl)) ((tlv_Find.calls k _ _ ae am af ag ad _ (Kd.C_below aX hI.1) bj bY).mono fun _ _ h => ⟨_, h.1, h.2, rfl⟩)) ?_
   refine .mv 2 rfl rfl rfl rfl ?_
   iterate 2 refine .on rfl (fun a w hS hI hp => does_val (x_extract rfl (hp.V 3 rfl rfl) rfl) rfl) ?_
   refine .on rfl (fun a w hS hI hp => does_var (x_alloc rfl (by kernel_rfl)) (hI.2).size) ?_
   exact .nil
  clear hS
  intro cw aG hS ax hp
  replace hS := (hS.nil).cons (hS.get 3 rfl)
  have bz : sl _ 77 = .agg #[.int .i64 af, .string ag] := hp 4 (by decide)
  have bA : sl _ 78 = .bool ad := hp 5 (by decide)
  obtain ⟨a3, bs, aM, aK⟩ := (show IsB _ 26 _ (sl _ 11) _ from hp 6 (by decide))
  have hS := hS.cons bz
  have hS := hS.cons bA
  have hS := hS.cons bs
  clear hp bz bA bs
  show wpList _ _ _ [_, _] _ _
  refine list_step rfl (does_storeAll (g := a3) (cs := #[.int .i64 af, .string ag]) rfl (hS.get 0 rfl) (hS.get 2 rfl) (((bR aG).block a3 (blk_lt aK)).trans aK) (by kernel_rfl) (by kernel_rfl) (by kernel_rfl)) ?_
  rintro cX bb ⟨rfl, a7, hT⟩
  have aT := hT.below ax.1 (Nat.le_trans (aw.1).size aM) (ax.1).size
  have aB := hT.below ax.2 aM (ax.2).size
  clear hT
  refine list_step rfl (R := fun v w' => Below _ _ w' ∧ (VB ad) v w') (does_val (x_assign rfl (hS.get 1 rfl)) rfl) ?_
  rintro bG aH ⟨hb, he⟩
  have aU := below_step aT hb
  have aC := below_step aB hb
  have aD := below_step (bR bb) hb
  obtain rfl : bG = .bool ad := he
  refine hS.next (v := .bool ad) (d := 12) rfl (by decide) (by rfl) ?_
  clear hS
  intro cz hS
  refine wpList_nil ?_
  refine aJ _ _ ?_
  refine wp_seq_k (fun dd bp => ?_)
  refine reg_seq (I := I4_ w al bb aH) (ps := [VB ad, VB ar, VB (ad == ar), VB (ad == ar), VB ad, VB ad, VU, VU, VU, VB true, VB true, VB true, VB ay, VB ay, VB ay]) (by kernel_rfl) ?_ ?_ rfl hS ⟨aU, aC, aD, (bR aH)⟩ ?_ ?_
  ·exact bs4
  ·exact .v (.v (.v (.v (.v (.v (.v (.v (.v (.v (.v (.v (.v (.v (.v (.nil)))))))))))))))
  ·refine .ms 0 rfl rfl rfl ?_
   refine .ms 4 rfl rfl rfl ?_
   refine .on rfl (fun a w hS hI hp => does_val (x_bin rfl (hp.V 0 rfl rfl) (hp.V 1 rfl rfl) (b_eqb _ _ _ _ _ (by kernel_rfl))) rfl) ?_
   refine .mv 2 rfl rfl rfl rfl ?_
   refine .oy 3 82 rfl rfl rfl rfl rfl c4 (fun a w hS hI hp => does_val (x_move rfl (hS.get 0 rfl)) rfl) ?_
   refine .oy 3 82 rfl rfl rfl rfl rfl c4 (fun a w hS hI hp => does_val (x_move rfl (hp.V 4 rfl rfl)) rfl) ?_
   iterate 3 refine .sn 5 84 rfl rfl rfl rfl rfl c5 ?_
   refine .oy 3 82 rfl rfl rfl rfl rfl c4 (fun a w hS hI hp => does_val (x_pickT rfl ((hp.V 5 rfl rfl).trans (bT c5)) (rfl)) rfl) ?_
   refine .pt 3 9 rfl rfl rfl rfl c4 rfl rfl ?_
   refine .mv 10 rfl rfl rfl rfl ?_
   refine .oy 11 90 rfl rfl rfl rfl rfl rfl (fun a w hS hI hp => does_call (by kernel_rfl) rfl ((carillonlaw08_awake.calls k  ay _  bk).mono fun _ _ h => ⟨_, h.1, h.2, rfl⟩)) ?_
   refine .pt 11 12 rfl rfl rfl rfl rfl rfl rfl ?_
   refine .asg 13 rfl rfl rfl rfl ?_
   exact .nil
  clear hS
  intro cB dj hS bD hp
  replace hS := hS.nil
  have bc : sl _ 4 = .bool ay := hp 14 (by decide)
  have hS := hS.cons bc
  clear hp bc
  refine bp _ _ ?_
  refine wp_ret ?_
  (try simp only [Exit.then, Exit.inBlock, Exit.jump, Exit.noGoto])
  exact bodyPost_ret (v := .bool true) (by rw [results_tmp rfl]; exact congrArg (Result.ok · _) ((hS.get 0 rfl).trans (congrArg Value.bool hret))) hS.nodef ⟨rfl, bD.1⟩
 rw [if_neg c5] at H
 by_cases c6 : ((af == 0) && (ag.toList == (⟨#[]⟩ : ByteArray).toList)) = true
 rotate_left
 ·rw [if_neg c6] at H
  exact absurd H (by simp)
 rw [if_pos c6] at H
 obtain ⟨ay, bk, H⟩ := Option.bind_eq_some_iff.mp H
 have hret := Option.some.inj H
 clear H
 refine wp_seq_k (fun bP aW => ?_)
 refine wp_seq_k (fun bQ aI => ?_)
 refine reg_seq (I := I2_ w a6) (ps := [VI ab, IsV (.slice ap ae.length aq), VI (ae.length : Int), VB (decide (ab < (ae.length : Int)))]) (by kernel_rfl) ?_ ?_ rfl hS ⟨a4, (bR a6)⟩ ?_ ?_
 ·exact bs2
 ·exact .v (.v (.v (.v (.nil))))
 ·refine .ms 3 rfl rfl rfl ?_
  refine .ms 0 rfl rfl rfl ?_
  refine .on rfl (fun a w hS hI hp => does_val (x_len (e := 26) rfl (by kernel_rfl) (hp.V 1 rfl rfl)) rfl) ?_
  refine .on rfl (fun a w hS hI hp => does_val (x_bin rfl (hp.V 0 rfl rfl) (hp.V 2 rfl rfl) (b_lss _ _ _ _ _ _)) rfl) ?_
  exact .nil
 clear hS
 intro bl al hS aw hp
 have aN : sl _ 60 = .bool (decide (ab < (ae.length : Int))) := hp 3 (by decide)
 have hS := hS.cons aN
 clear hp aN
 refine aI _ _ ?_
 refine wp_cond_false ((hS.get 0 rfl).trans (bF (decide_eq_false c3))) ?_
 refine wp_exit ?_
 (try simp only [Exit.then, Exit.inBlock, reduceIte])
 refine b6 _ _ ?_
 refine wp_seq_k (fun bS aJ => ?_)
 refine reg_seq_tail 7 (I := I2_ w al) (ps := [IsV (.slice ap ae.length aq), VI am, IsV (.tuple #[.agg #[.int .i64 af, .string ag], .bool ad]), IsV (.tuple #[.agg #[.int .i64 af, .string ag], .bool ad]), IsV (.agg #[.int .i64 af, .string ag]), VB ad, IsB #[.int .i64 0, .string (⟨#[]⟩ : ByteArray)] 26 al.heap.size]) (by kernel_rfl) ?_ ?_ rfl hS ⟨aw.1, (bR al)⟩ ?_ ?_
 ·exact bs2
 ·exact .v (.v (.v (.v (.v (.v (.cons (Stays.b _ _ _) (.nil)))))))
 ·refine .ms 1 rfl rfl rfl ?_
  refine .ms 2 rfl rfl rfl ?_
  refine .on rfl (fun a w hS hI hp => does_call (by kernel_rfl) (ar2 (hp.V 0 rfl rfl) (hp.V 1 rfl rfl)) ((tlv_Find.calls k _ _ ae am af ag ad _ (Kd.C_below aX hI.1) bj bY).mono fun _ _ h => ⟨_, h.1, h.2, rfl⟩)) ?_
  refine .mv 2 rfl rfl rfl rfl ?_
  iterate 2 refine .on rfl (fun a w hS hI hp => does_val (x_extract rfl (hp.V 3 rfl rfl) rfl) rfl) ?_
  refine .on rfl (fun a w hS hI hp => does_var (x_alloc rfl (by kernel_rfl)) (hI.2).size) ?_
  exact .nil
 clear hS
 intro cw aG hS ax hp
 replace hS := (hS.nil).cons (hS.get 3 rfl)
 have bz : sl _ 77 = .agg #[.int .i64 af, .string ag] := hp 4 (by decide)
 have bA : sl _ 78 = .bool ad := hp 5 (by decide)
 obtain ⟨a3, bs, aM, aK⟩ := (show IsB _ 26 _ (sl _ 11) _ from hp 6 (by decide))
 have hS := hS.cons bz
 have hS := hS.cons bA
 have hS := hS.cons bs
 clear hp bz bA bs
 show wpList _ _ _ [_, _] _ _
 refine list_step rfl (does_storeAll (g := a3) (cs := #[.int .i64 af, .string ag]) rfl (hS.get 0 rfl) (hS.get 2 rfl) (((bR aG).block a3 (blk_lt aK)).trans aK) (by kernel_rfl) (by kernel_rfl) (by kernel_rfl)) ?_
 rintro cX bb ⟨rfl, a7, hT⟩
 have aT := hT.below ax.1 (Nat.le_trans (aw.1).size aM) (ax.1).size
 have aB := hT.below ax.2 aM (ax.2).size
 clear hT
 refine list_step rfl (R := fun v w' => Below _ _ w' ∧ (VB ad) v w') (does_val (x_assign rfl (hS.get 1 rfl)) rfl) ?_
 rintro bG aH ⟨hb, he⟩
 have aU := below_step aT hb
 have aC := below_step aB hb
 have aD := below_step (bR bb) hb
 obtain rfl : bG = .bool ad := he
 refine hS.next (v := .bool ad) (d := 12) rfl (by decide) (by rfl) ?_
 clear hS
 intro cz hS
 refine wpList_nil ?_
 refine aJ _ _ ?_
 refine wp_seq_k (fun dd bp => ?_)
 refine reg_seq (I := I4_ w al bb aH) (ps := [VB ad, VB ar, VB (ad == ar), VB (ad == ar), VB ad, VB ad, IsV (.agg #[.int .i64 af, .string ag]), IsV (.agg #[.int .i64 0, .string (⟨#[]⟩ : ByteArray)]), VB ((af == 0) && (ag.toList == (⟨#[]⟩ : ByteArray).toList)), VB ((af == 0) && (ag.toList == (⟨#[]⟩ : ByteArray).toList)), VB ((af == 0) && (ag.toList == (⟨#[]⟩ : ByteArray).toList)), VB ((af == 0) && (ag.toList == (⟨#[]⟩ : ByteArray).toList)), VB ay, VB ay, VB ay]) (by kernel_rfl) ?_ ?_ rfl hS ⟨aU, aC, aD, (bR aH)⟩ ?_ ?_
 ·exact bs4
 ·exact .v (.v (.v (.v (.v (.v (.v (.v (.v (.v (.v (.v (.v (.v (.v (.nil)))))))))))))))
 ·refine .ms 0 rfl rfl rfl ?_
  refine .ms 4 rfl rfl rfl ?_
  refine .on rfl (fun a w hS hI hp => does_val (x_bin rfl (hp.V 0 rfl rfl) (hp.V 1 rfl rfl) (b_eqb _ _ _ _ _ (by kernel_rfl))) rfl) ?_
  refine .mv 2 rfl rfl rfl rfl ?_
  refine .oy 3 82 rfl rfl rfl rfl rfl c4 (fun a w hS hI hp => does_val (x_move rfl (hS.get 0 rfl)) rfl) ?_
  refine .oy 3 82 rfl rfl rfl rfl rfl c4 (fun a w hS hI hp => does_val (x_move rfl (hp.V 4 rfl rfl)) rfl) ?_
  refine .oy 5 84 rfl rfl rfl rfl rfl ((Bool.eq_false_iff.2 c5)) (fun a w hS hI hp => does_loadrow rfl (hS.get 1 rfl) (((hI.2.2.1).block a3 (blk_lt a7)).trans a7) Try.underlying26 rfl (by kernel_rfl) rfl) ?_
  refine .oy 5 84 rfl rfl rfl rfl rfl ((Bool.eq_false_iff.2 c5)) (fun a w hS hI hp => does_val (x_build (vs := []) rfl (by rw [Array.toList_map]; exact (show [] = _ from rfl)) (by kernel_rfl)) rfl) ?_
  refine .oy 5 84 rfl rfl rfl rfl rfl ((Bool.eq_false_iff.2 c5)) (fun a w hS hI hp => does_val (x_bin rfl (hp.V 6 rfl rfl) (hp.V 7 rfl rfl) (carillonlaw08_TlvFinds.eql26 _ _ _ af ag 0 (⟨#[]⟩ : ByteArray))) rfl) ?_
  refine .oy 3 82 rfl rfl rfl rfl rfl c4 (fun a w hS hI hp => does_val (x_pickF rfl ((hp.V 5 rfl rfl).trans (bF (Bool.eq_false_iff.2 c5))) (hp.V 8 rfl rfl)) rfl) ?_
  refine .pt 3 9 rfl rfl rfl rfl c4 rfl rfl ?_
  refine .mv 10 rfl rfl rfl rfl ?_
  refine .oy 11 90 rfl rfl rfl rfl rfl c6 (fun a w hS hI hp => does_call (by kernel_rfl) rfl ((carillonlaw08_awake.calls k  ay _  bk).mono fun _ _ h => ⟨_, h.1, h.2, rfl⟩)) ?_
  refine .pt 11 12 rfl rfl rfl rfl c6 rfl rfl ?_
  refine .asg 13 rfl rfl rfl rfl ?_
  exact .nil
 clear hS
 intro cB dj hS bD hp
 replace hS := hS.nil
 have bc : sl _ 4 = .bool ay := hp 14 (by decide)
 have hS := hS.cons bc
 clear hp bc
 refine bp _ _ ?_
 refine wp_ret ?_
 (try simp only [Exit.then, Exit.inBlock, Exit.jump, Exit.noGoto])
 exact bodyPost_ret (v := .bool true) (by rw [results_tmp rfl]; exact congrArg (Result.ok · _) ((hS.get 0 rfl).trans (congrArg Value.bool hret))) hS.nodef ⟨rfl, bD.1⟩
def carillonlaw08_TlvFinds.Pure : Prop := ∀ (l0 : List (S26)) (a1 : Int), l0.length ≤ maxLen → l0.length * 24 ≤ 140737488351232 → (∀ x ∈ l0, (Lit.int .i64 x.f0).wf = true ∧ x.f1.size ≤ 9223372036854775807) → (Lit.int .i64 a1).wf = true → ∃ k, carillonlaw08_TlvFinds.f k l0 a1 = some true
theorem carillonlaw08_TlvFinds.walk (P : carillonlaw08_TlvFinds.Pure) (a0 : Option Addr) (cd : Nat) (l0 : List (S26)) (a1 : Int) (w : World) (hr0 : Kd.C k26 w a0 l0.length l0) (hc0 : l0.length ≤ cd) (hm0 : l0.length ≤ maxLen) (y0 : l0.length * 24 ≤ 140737488351232) (hw0 : (∀ x ∈ l0, (Lit.int .i64 x.f0).wf = true ∧ x.f1.size ≤ 9223372036854775807)) (w1 : (Lit.int .i64 a1).wf = true) :
  Calls Try.prog 3 #[.slice a0 l0.length cd, .int .i64 a1] w fun e w' => e = .returned (.bool true) ∧ Below w.heap.size w w' := by
 obtain ⟨k, h⟩ := P l0 a1 hm0 y0 hw0 w1
 refine (carillonlaw08_TlvFinds.calls k a0 cd l0 a1 w hr0 hc0 h).mono ?_
 rintro e w' ⟨rfl, hd⟩
 exact ⟨rfl, hd⟩
end Go.Proofs.Ytgmiokocipmbaaa.P
