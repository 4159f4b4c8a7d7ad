/- Functions and loops of the given program as Lean functions, and that the code comes to what they say: written by this session's own program; Lean checks it. -/
import Derived.Test.YtiomlbkakiienaaZzPx0
import Derived.Test.YtiomlbkakiienaaZzPx4
import Derived.Test.YtiomlbkakiienaaZzPx5
namespace Go.Proofs.Ytiomlbkakiienaa.P
open Go.RowKit Go.Proofs.YtiomlbkakiienaaW.PrintWords Go.Proofs.YtiomlbkakiienaaW.PrintLast Go.Proofs.YtiomlbkakiienaaW.PrintMore
attribute [local go_sem] max2_int min2_int max_two min_two max_three min_three max_four min_four   -- for this text's walks alone
set_option linter.unusedVariables false
set_option linter.unusedSimpArgs false
def tlv_Get.l1 (k : Nat) : Nat → (List Int) → Int → (List (S43)) → Int → Option (List (S43) × Int)
  | 0, _, _, _, _ => none
  | n1 + 1, y1_0, x1_1, y1_6, x1_7 => if x1_1 < (y1_0.length : Int) then (none) else (if x1_7 = 0 then (some (y1_6, 0)) else (none))
def tlv_Get.f (k : Nat) (l0 : List Int) (a1 : Int) : Option (List (S43) × Int) := if a1 < 0 then (none) else (if a1 > (l0.length : Int) then (none) else (tlv_Get.l1 k k l0 a1 [] 0))
open Go.Proofs.Ytiomlbkakiienaa.E in
set_option maxHeartbeats 60000000 in
set_option maxRecDepth 100000 in
theorem tlv_Get.calls (k : Nat) (A0 : Option Addr) (ap : Nat) (l0 : List Int) (a1 : Int) (r1 : List (S43)) (r2 : Int) (w : World) (HR0 : Kd.C (Kd.int .u8) w A0 l0.length l0) (HC0 : l0.length ≤ ap) (h : tlv_Get.f k l0 a1 = some (r1, r2)) :
    Calls Try.prog 30 #[.slice A0 l0.length ap, .int .i64 a1] w fun e w' => ∃ v0_ : Value, e = .returned (.tuple #[v0_, .int .i64 r2]) ∧ Kd.R k43 43 w' w.heap.size (fun _ => True) v0_ r1 ∧ Below w.heap.size w w' := by
 have H := h
 clear h
 unfold tlv_Get.f at H
 by_cases c1 : a1 < 0
 ·rw [if_pos c1] at H; exact absurd H (by simp)
 rw [if_neg c1] at H
 by_cases c2 : a1 > (l0.length : Int)
 ·rw [if_pos c2] at H; exact absurd H (by simp)
 rw [if_neg c2] at H
 refine calls_of_wp (fn := Try.f30) (by kernel_rfl) rfl ?_
 have hS := St.enter #[.slice A0 l0.length ap, .int .i64 a1] 81 (by simp) [(0, .slice A0 l0.length ap), (1, .int .i64 a1)] (by simp)
 have aK := Below.refl w.heap.size w
 refine wp_seq_k (fun K1 aO => ?_)
 refine reg_seq (I := I1_ w) (ps := [IsV (.slice none 0 0), VI 0]) (by kernel_rfl) ?_ ?_ rfl hS aK ?_ ?_
 ·exact bs1
 ·exact .v (.v (.nil))
 ·refine .on rfl (fun a w hS hI hp => does_val (x_assign rfl (rfl)) rfl) ?_
  refine .on rfl (fun a w hS hI hp => does_val (x_assign rfl (rfl)) rfl) ?_
  exact .nil
 clear hS
 intro ba w3 hS aU hp
 clear hp
 refine aO _ _ ?_
 refine wp_scope_straight ?_
 refine wp_seq_k (fun K4 aQ => ?_)
 refine wp_seq_k (fun K5 aR => ?_)
 refine reg_seq (I := I2_ w w3) (ps := [VI a1, VB (decide (a1 < 0)), VB (decide (a1 < 0)), VI a1, IsV (.slice A0 l0.length ap), VI (l0.length : Int), VB (decide (a1 > (l0.length : Int))), VB (decide (a1 > (l0.length : Int)))]) (by kernel_rfl) ?_ ?_ rfl hS ⟨aU, (bR w3)⟩ ?_ ?_
 ·exact bs2
 ·exact .v (.v (.v (.v (.v (.v (.v (.v (.nil))))))))
 ·refine .ms 1 rfl rfl rfl ?_
  refine .on rfl (fun a w hS hI hp => does_val (x_bin rfl (hp.V 0 rfl rfl) (rfl) (b_lss _ _ _ _ _ _)) rfl) ?_
  refine .mv 1 rfl rfl rfl ?_
  refine .oy 2 14 rfl rfl ((decide_eq_false c1)) (fun a w hS hI hp => does_val (x_move rfl (hS.get 1 rfl)) rfl) ?_
  refine .oy 2 14 rfl rfl ((decide_eq_false c1)) (fun a w hS hI hp => does_val (x_move rfl (hS.get 0 rfl)) rfl) ?_
  refine .oy 2 14 rfl rfl ((decide_eq_false c1)) (fun a w hS hI hp => does_val (x_len (e := 5) rfl (by kernel_rfl) (hp.V 4 rfl rfl)) rfl) ?_
  refine .oy 2 14 rfl rfl ((decide_eq_false c1)) (fun a w hS hI hp => does_val (x_bin rfl (hp.V 3 rfl rfl) (hp.V 5 rfl rfl) (b_gtr _ _ _ _ _ _)) rfl) ?_
  refine .on rfl (fun a w hS hI hp => does_val (x_pickF rfl ((hp.V 2 rfl rfl).trans (bF (decide_eq_false c1))) (hp.V 6 rfl rfl)) rfl) ?_
  exact .nil
 clear hS
 intro bb w7 hS aV hp
 have ax : sl _ 19 = .bool (decide (a1 > (l0.length : Int))) := hp 7 (by decide)
 have hS := hS.cons ax
 clear hp ax
 refine aR _ _ ?_
 refine wp_cond_false ((hS.get 0 rfl).trans (bF (decide_eq_false c2))) ?_
 refine wp_skip ?_
 refine aQ _ _ ?_
 refine wp_seq_k (fun K8 aS => ?_)
 refine reg_seq (I := I2_ w w7) (ps := [IsV (.slice none 0 0)]) (by kernel_rfl) ?_ ?_ rfl hS ⟨aV.1, (bR w7)⟩ ?_ ?_
 ·exact bs2
 ·exact .v (.nil)
 ·refine .on rfl (fun a w hS hI hp => does_val (x_assign rfl (rfl)) rfl) ?_
  exact .nil
 clear hS
 intro bc aE hS aI hp
 replace hS := ((hS.nil).cons (hS.get 2 rfl)).cons (hS.get 1 rfl)
 have aC : sl _ 6 = .slice none 0 0 := hp 0 (by decide)
 have hS := hS.cons aC
 clear hp aC
 refine aS _ _ ?_
 refine wp_seq_k (fun a6 aF => ?_)
 refine reg_seq (I := I2_ w aE) (ps := [VI 0]) (by kernel_rfl) ?_ ?_ rfl hS ⟨aI.1, (bR aE)⟩ ?_ ?_
 ·exact bs2
 ·exact .v (.nil)
 ·refine .on rfl (fun a w hS hI hp => does_val (x_assign rfl (rfl)) rfl) ?_
  exact .nil
 clear hS
 intro a5 bd hS aJ hp
 have aD : sl _ 7 = .int .i64 0 := hp 0 (by decide)
 have hS := hS.cons aD
 clear hp aD
 refine aF _ _ ?_
 refine wp_seq_k (fun a7 aG => ?_)
 refine wp_label ?_
 refine aG _ _ ?_
 refine wp_seq_k (fun a8 aH => ?_)
 refine wp_block ?_
 replace hS := ((((hS.nil).cons (hS.get 0 rfl)).cons (hS.get 1 rfl)).cons (hS.get 3 rfl)).cons (hS.get 2 rfl)
 refine wp_loop_ghost (fun n_ a_ ai => ∃ (ab : List Int) (ag : Option Addr) (ah : Nat) (ae : Int) (ac : List (S43)) (ad : Option Addr) (aa : Nat) (af : Int), tlv_Get.l1 k n_ ab ae ac af = some (r1, r2) ∧ St 81 [(0, .slice ag ab.length ah), (1, .int .i64 ae), (6, .slice ad ac.length aa), (7, .int .i64 af)] a_ ∧ Below w.heap.size w ai ∧ ab.length ≤ ah ∧ Kd.C (Kd.int .u8) w ag ab.length ab ∧ ac.length ≤ aa ∧ Kd.R k43 43 ai w.heap.size (fun _ => True) (.slice ad ac.length aa) ac) k ⟨l0, A0, ap, a1, [], none, 0, 0, H, hS, aJ.1, HC0, (HR0), (Nat.le_refl _), (Kd.R_nil _ _ _ _ _)⟩ ?_
 clear H hS
 rintro n1 a9 ai ⟨ab, ag, ah, ae, ac, ad, aa, af, H, hS, ao, a2, aT, a3, aw⟩
 rcases n1 with _ | n1
 ·exact absurd H (by simp [tlv_Get.l1])
 rw [tlv_Get.l1] at H
 (try dsimp only at H)
 by_cases c3 : ae < (ab.length : Int)
 ·rw [if_pos c3] at H; exact absurd H (by simp)
 rw [if_neg c3] at H
 by_cases c4 : af = 0
 rotate_left
 ·rw [if_neg c4] at H; exact absurd H (by simp)
 rw [if_pos c4] at H
 simp only [Option.some.injEq, Prod.mk.injEq] at H
 obtain ⟨rfl, rfl⟩ := H
 refine wp_seq_k (fun aW aP => ?_)
 refine wp_seq_k (fun aX aq => ?_)
 refine reg_seq (I := I2_ w ai) (ps := [VI ae, IsV (.slice ag ab.length ah), VI (ab.length : Int), VB (decide (ae < (ab.length : Int)))]) (by kernel_rfl) ?_ ?_ rfl hS ⟨ao, (bR ai)⟩ ?_ ?_
 ·exact bs2
 ·exact .v (.v (.v (.v (.nil))))
 ·refine .ms 1 rfl rfl rfl ?_
  refine .ms 0 rfl rfl rfl ?_
  refine .on rfl (fun a w hS hI hp => does_val (x_len (e := 5) rfl (by kernel_rfl) (hp.V 1 rfl rfl)) rfl) ?_
  refine .on rfl (fun a w hS hI hp => does_val (x_bin rfl (hp.V 0 rfl rfl) (hp.V 2 rfl rfl) (b_lss _ _ _ _ _ _)) rfl) ?_
  exact .nil
 clear hS
 intro aL am hS aj hp
 have ay : sl _ 23 = .bool (decide (ae < (ab.length : Int))) := hp 3 (by decide)
 have hS := hS.cons ay
 clear hp ay
 refine aq _ _ ?_
 refine wp_cond_false ((hS.get 0 rfl).trans (bF (decide_eq_false c3))) ?_
 refine wp_exit ?_
 (try simp only [Exit.then, Exit.inBlock, reduceIte])
 refine aH _ _ ?_
 refine wp_seq_k (fun aY ar => ?_)
 refine wp_seq_k (fun aZ au => ?_)
 refine reg_seq (I := I3_ w ai am) (ps := [VI af, VB (!decide (af = 0))]) (by kernel_rfl) ?_ ?_ rfl hS ⟨aj.1, aj.2, (bR am)⟩ ?_ ?_
 ·exact bs3
 ·exact .v (.v (.nil))
 ·refine .ms 4 rfl rfl rfl ?_
  refine .on rfl (fun a w hS hI hp => does_val (x_bin rfl (hp.V 0 rfl rfl) (rfl) (b_neq _ _ _ _ _ _)) rfl) ?_
  exact .nil
 clear hS
 intro aM an hS ak hp
 replace hS := ((hS.nil).cons (hS.get 4 rfl)).cons (hS.get 3 rfl)
 have az : sl _ 78 = .bool (!decide (af = 0)) := hp 1 (by decide)
 have hS := hS.cons az
 clear hp az
 refine au _ _ ?_
 refine wp_cond_false ((hS.get 0 rfl).trans (bF (congrArg (!·) (decide_eq_true c4)))) ?_
 refine wp_skip ?_
 refine ar _ _ ?_
 refine wp_seq_k (fun a0 av => ?_)
 refine reg_seq (I := I3_ w ai an) (ps := [IsV (.slice ad ac.length aa), IsV (.slice ad ac.length aa), VI 0]) (by kernel_rfl) ?_ ?_ rfl hS ⟨ak.1, ak.2.1, (bR an)⟩ ?_ ?_
 ·exact bs3
 ·exact .v (.v (.v (.nil)))
 ·refine .ms 1 rfl rfl rfl ?_
  refine .asg 0 rfl rfl rfl ?_
  refine .on rfl (fun a w hS hI hp => does_val (x_assign rfl (rfl)) rfl) ?_
  exact .nil
 clear hS
 intro aN a4 hS al hp
 replace hS := hS.nil
 have aA : sl _ 4 = .slice ad ac.length aa := hp 1 (by decide)
 have aB : sl _ 5 = .int .i64 0 := hp 2 (by decide)
 have hS := hS.cons aA
 have hS := hS.cons aB
 clear hp aA aB
 refine av _ _ ?_
 refine wp_ret ?_
 (try simp only [Exit.then, Exit.inBlock, Exit.jump, Exit.noGoto])
 exact bodyPost_ret (v := .tuple #[.slice ad ac.length aa, .int .i64 0]) (results_list (rs := [.tmp 4, .tmp 5]) rfl (by simp) (Vals.at (hS.get 1 rfl) (Vals.at (hS.get 0 rfl) .nil))) hS.nodef ⟨.slice ad ac.length aa, rfl, Kd.R_lower (Kd.R_below aw al.2.1) (Nat.le_refl _), al.1⟩
def frame_Get.f (k : Nat) (a0 : ByteArray) : Option (Int × Int × Int × Int × Int × Int × Int × Int × Int × Int × Int × Int × Int × Int × Int × Int × Int × Int × Int × Int × Int × Int × Int × List (S43) × Int) := if a0.size ≤ 9223372036854775807 then ((header_Get.f k (bytesOf a0)).bind fun t12 => (if t12.2.2.2.2.2.2.2.2.2.2.2.2.2.2.2.2.2.2.2.2.2.2.2.2 = 0 then ((body_Get.f k t12.1 t12.2.1 t12.2.2.1 t12.2.2.2.1 t12.2.2.2.2.1 t12.2.2.2.2.2.1 t12.2.2.2.2.2.2.1 t12.2.2.2.2.2.2.2.1 t12.2.2.2.2.2.2.2.2.1 t12.2.2.2.2.2.2.2.2.2.1 t12.2.2.2.2.2.2.2.2.2.2.1 t12.2.2.2.2.2.2.2.2.2.2.2.1 t12.2.2.2.2.2.2.2.2.2.2.2.2.1 t12.2.2.2.2.2.2.2.2.2.2.2.2.2.1 t12.2.2.2.2.2.2.2.2.2.2.2.2.2.2.1 t12.2.2.2.2.2.2.2.2.2.2.2.2.2.2.2.1 t12.2.2.2.2.2.2.2.2.2.2.2.2.2.2.2.2.1 t12.2.2.2.2.2.2.2.2.2.2.2.2.2.2.2.2.2.1 t12.2.2.2.2.2.2.2.2.2.2.2.2.2.2.2.2.2.2.1 t12.2.2.2.2.2.2.2.2.2.2.2.2.2.2.2.2.2.2.2.1 t12.2.2.2.2.2.2.2.2.2.2.2.2.2.2.2.2.2.2.2.2.1 t12.2.2.2.2.2.2.2.2.2.2.2.2.2.2.2.2.2.2.2.2.2.1 t12.2.2.2.2.2.2.2.2.2.2.2.2.2.2.2.2.2.2.2.2.2.2.1 (bytesOf a0) 34).bind fun t27 => (if t27.2.2.2.2.2.2.2.2.2.2.2.2.2.2.2.2.2.2.2.2.2.2.2.2 = 0 then ((tlv_Get.f k (bytesOf a0) t27.2.2.2.2.2.2.2.2.2.2.2.2.2.2.2.2.2.2.2.2.2.2.2.1).bind fun t40 => (if t40.2 = 0 then (some (t27.1, t27.2.1, t27.2.2.1, t27.2.2.2.1, t27.2.2.2.2.1, t27.2.2.2.2.2.1, t27.2.2.2.2.2.2.1, t27.2.2.2.2.2.2.2.1, t27.2.2.2.2.2.2.2.2.1, t27.2.2.2.2.2.2.2.2.2.1, t27.2.2.2.2.2.2.2.2.2.2.1, t27.2.2.2.2.2.2.2.2.2.2.2.1, t27.2.2.2.2.2.2.2.2.2.2.2.2.1, t27.2.2.2.2.2.2.2.2.2.2.2.2.2.1, t27.2.2.2.2.2.2.2.2.2.2.2.2.2.2.1, t27.2.2.2.2.2.2.2.2.2.2.2.2.2.2.2.1, t27.2.2.2.2.2.2.2.2.2.2.2.2.2.2.2.2.1, t27.2.2.2.2.2.2.2.2.2.2.2.2.2.2.2.2.2.1, t27.2.2.2.2.2.2.2.2.2.2.2.2.2.2.2.2.2.2.1, t27.2.2.2.2.2.2.2.2.2.2.2.2.2.2.2.2.2.2.2.1, t27.2.2.2.2.2.2.2.2.2.2.2.2.2.2.2.2.2.2.2.2.1, t27.2.2.2.2.2.2.2.2.2.2.2.2.2.2.2.2.2.2.2.2.2.1, t27.2.2.2.2.2.2.2.2.2.2.2.2.2.2.2.2.2.2.2.2.2.2.1, t40.1, 0)) else (none))) else (none))) else (none))) else (none)
abbrev frame_Get.c0 (x0 x1 x2 x3 x4 x5 x6 x7 x8 x9 x10 x11 x12 x13 x14 x15 x16 x17 x18 x19 x20 x21 x22 : Int) : Array Value := #[.int .i64 x0, .int .i64 x1, .int .i64 x2, .int .i64 x3, .int .u64 x4, .int .i64 x5, .int .i64 x6, .int .i64 x7, .int .i64 x8, .int .u64 x9, .int .i64 x10, .int .i64 x11, .int .i64 x12, .int .i64 x13, .int .i64 x14, .int .i64 x15, .int .i64 x16, .int .u64 x17, .int .i64 x18, .int .i64 x19, .int .i64 x20, .int .i64 x21, .int .i64 x22]
abbrev frame_Get.v1 (x0 x1 x2 x3 x4 x5 x6 x7 x8 x9 x10 x11 x12 x13 x14 x15 x16 x17 x18 x19 x20 x21 x22 : Int) : Value := .agg #[.int .i64 x0, .int .i64 x1, .int .i64 x2, .int .i64 x3, .int .u64 x4, .int .i64 x5, .int .i64 x6, .int .i64 x7, .int .i64 x8, .int .u64 x9, .int .i64 x10, .int .i64 x11, .int .i64 x12, .int .i64 x13, .int .i64 x14, .int .i64 x15, .int .i64 x16, .int .u64 x17, .int .i64 x18, .int .i64 x19, .int .i64 x20, .int .i64 x21, .int .i64 x22]
open Go.Proofs.Ytiomlbkakiienaa.E in
set_option maxHeartbeats 60000000 in
set_option maxRecDepth 100000 in
theorem frame_Get.calls (k : Nat) (a0 : ByteArray) (r1 r2 r3 r4 r5 r6 r7 r8 r9 dy dz dA dB dC dD dE dF dG dH dI dJ dK dL : Int) (dM : List (S43)) (dN : Int) (w : World) (h : frame_Get.f k a0 = some (r1, r2, r3, r4, r5, r6, r7, r8, r9, dy, dz, dA, dB, dC, dD, dE, dF, dG, dH, dI, dJ, dK, dL, dM, dN)) :
    Calls Try.prog 14 #[.string a0] w fun e w' => ∃ v0_ : Value, e = .returned (.tuple #[.agg #[.int .i64 r1, .int .i64 r2, .int .i64 r3, .int .i64 r4, .int .u64 r5, .int .i64 r6, .int .i64 r7, .int .i64 r8, .int .i64 r9, .int .u64 dy, .int .i64 dz, .int .i64 dA, .int .i64 dB, .int .i64 dC, .int .i64 dD, .int .i64 dE, .int .i64 dF, .int .u64 dG, .int .i64 dH, .int .i64 dI, .int .i64 dJ, .int .i64 dK, .int .i64 dL], v0_, .int .i64 dN]) ∧ Kd.R k43 43 w' w.heap.size (fun _ => True) v0_ dM ∧ Below w.heap.size w w' := by
 have H := h
 clear h
 unfold frame_Get.f at H
 refine calls_of_wp (fn := Try.f14) (by kernel_rfl) rfl ?_
 have hS := St.enter #[.string a0] 42 (by simp) [(0, .string a0)] (by simp)
 have cD := Below.refl w.heap.size w
 refine wp_seq_k (fun K1 cE => ?_)
 refine reg_seq (I := I1_ w) (ps := [IsB (frame_Get.c0 0 0 0 0 0 0 0 0 0 0 0 0 0 0 0 0 0 0 0 0 0 0 0) 28 w.heap.size, IsV (.slice none 0 0), VI 0]) (by kernel_rfl) ?_ ?_ rfl hS cD ?_ ?_
 ·exact bs1
 ·exact .cons (Stays.b _ _ _) (.v (.v (.nil)))
 ·refine .on rfl (fun a w hS hI hp => does_var (x_alloc rfl (by kernel_rfl)) (hI).size) ?_
  iterate 2 refine .on rfl (fun a w hS hI hp => does_val (x_assign rfl (rfl)) rfl) ?_
  exact .nil
 clear hS
 intro ds w3 hS cH hp
 obtain ⟨g4, ca, b6, bg⟩ := (show IsB _ 28 _ (sl _ 2) _ from hp 0 (by decide))
 have hS := hS.cons ca
 clear hp ca
 refine cE _ _ ?_
 refine wp_scope_fwd 0 (fun _ _ => False) rfl ?_ (fun _ => ?_)
 ·exact fun _ _ h => h.elim
 by_cases c1 : a0.size ≤ 9223372036854775807
 rotate_left
 ·rw [if_neg c1] at H; exact absurd H (by simp)
 rw [if_pos c1] at H
 obtain ⟨cI, ci, H⟩ := Option.bind_eq_some_iff.mp H
 obtain ⟨aU, aV, aW, aX, aY, aZ, a1, a2, a3, aE, aF, aG, aH, aI, aJ, aK, aL, aM, aN, aO, aP, aQ, aR, aS, ab⟩ := cI
 (try dsimp only at H)
 by_cases c2 : ab = 0
 rotate_left
 ·rw [if_neg c2] at H; exact absurd H (by simp)
 rw [if_pos c2] at H
 obtain ⟨cJ, cj, H⟩ := Option.bind_eq_some_iff.mp H
 obtain ⟨au, av, aw, ax, ay, az, aA, aB, aC, ad, ae, af, ag, ah, ai, aj, ak, al, am, an, ao, ap, aq, ar, ac⟩ := cJ
 (try dsimp only at H)
 by_cases c3 : ac = 0
 rotate_left
 ·rw [if_neg c3] at H; exact absurd H (by simp)
 rw [if_pos c3] at H
 obtain ⟨cK, ck, H⟩ := Option.bind_eq_some_iff.mp H
 obtain ⟨aa, aD⟩ := cK
 (try dsimp only at H)
 by_cases c4 : aD = 0
 rotate_left
 ·rw [if_neg c4] at H; exact absurd H (by simp)
 rw [if_pos c4] at H
 simp only [Option.some.injEq, Prod.mk.injEq] at H
 obtain ⟨rfl, rfl, rfl, rfl, rfl, rfl, rfl, rfl, rfl, rfl, rfl, rfl, rfl, rfl, rfl, rfl, rfl, rfl, rfl, rfl, rfl, rfl, rfl, rfl, rfl⟩ := H
 refine wp_seq_k (fun K5 cF => ?_)
 refine reg_seq (I := I2_ w w3) (ps := [IsV (.slice none 0 0)]) (by kernel_rfl) ?_ ?_ rfl hS ⟨cH, (bR w3)⟩ ?_ ?_
 ·exact bs2
 ·exact .v (.nil)
 ·refine .on rfl (fun a w hS hI hp => does_val (x_assign rfl (rfl)) rfl) ?_
  exact .nil
 clear hS
 intro dt w7 hS cd hp
 clear hp
 refine cF _ _ ?_
 refine wp_seq_k (fun K8 cG => ?_)
 refine reg_seq (I := I3_ w w3 w7) (ps := [VI 0]) (by kernel_rfl) ?_ ?_ rfl hS ⟨cd.1, cd.2, (bR w7)⟩ ?_ ?_
 ·exact bs3
 ·exact .v (.nil)
 ·refine .on rfl (fun a w hS hI hp => does_val (x_assign rfl (rfl)) rfl) ?_
  exact .nil
 clear hS
 intro du a9 hS a5 hp
 clear hp
 refine cG _ _ ?_
 refine wp_seq_k (fun dg cl => ?_)
 refine reg_seq_tail 8 (I := I3_ w w3 a9) (ps := [IsV (.string a0), IsC (Kd.int .u8) (bytesOf a0), IsV (.tuple #[(frame_Get.v1 aU aV aW aX aY aZ a1 a2 a3 aE aF aG aH aI aJ aK aL aM aN aO aP aQ aR), .int .i64 aS, .int .i64 ab]), IsV (.tuple #[(frame_Get.v1 aU aV aW aX aY aZ a1 a2 a3 aE aF aG aH aI aJ aK aL aM aN aO aP aQ aR), .int .i64 aS, .int .i64 ab]), IsV ((frame_Get.v1 aU aV aW aX aY aZ a1 a2 a3 aE aF aG aH aI aJ aK aL aM aN aO aP aQ aR)), VI aS, VI ab, IsB (frame_Get.c0 0 0 0 0 0 0 0 0 0 0 0 0 0 0 0 0 0 0 0 0 0 0 0) 28 a9.heap.size]) (by kernel_rfl) ?_ ?_ rfl hS ⟨a5.1, a5.2.1, (bR a9)⟩ ?_ ?_
 ·exact bs3
 ·exact .v (.cons (Stays.c _ _) (.v (.v (.v (.v (.v (.cons (Stays.b _ _ _) (.nil))))))))
 ·refine .ms 1 rfl rfl rfl ?_
  refine .on rfl (fun a w hS hI hp => does_bytes (e := 5) rfl (by kernel_rfl) (by kernel_rfl) (by kernel_rfl) (hp.V 0 rfl rfl) c1) ?_
  refine .on rfl (fun a w hS hI hp => (hp.V 1 rfl rfl).elim fun A_ h_ => h_.elim fun c_ h_ => h_.elim fun hv_ h_ => h_.elim fun hl_ hc_ => does_call (by kernel_rfl) (ar1 (hv_)) ((header_Get.calls k _ _ (bytesOf a0) aU aV aW aX aY aZ a1 a2 a3 aE aF aG aH aI aJ aK aL aM aN aO aP aQ aR aS ab _ hc_ hl_ ci).mono fun _ _ h => ⟨_, h.1, h.2, rfl⟩)) ?_
  refine .mv 2 rfl rfl rfl ?_
  iterate 3 refine .on rfl (fun a w hS hI hp => does_val (x_extract rfl (hp.V 3 rfl rfl) rfl) rfl) ?_
  refine .on rfl (fun a w hS hI hp => does_var (x_alloc rfl (by kernel_rfl)) (hI.2.2).size) ?_
  exact .nil
 clear hS
 intro cQ cL hS ba hp
 have bT : sl _ 14 = (frame_Get.v1 aU aV aW aX aY aZ a1 a2 a3 aE aF aG aH aI aJ aK aL aM aN aO aP aQ aR) := hp 4 (by decide)
 have bU : sl _ 15 = .int .i64 aS := hp 5 (by decide)
 have bV : sl _ 16 = .int .i64 ab := hp 6 (by decide)
 obtain ⟨bh, cb, aT, bw⟩ := (show IsB _ 28 _ (sl _ 7) _ from hp 7 (by decide))
 have hS := hS.cons bT
 have hS := hS.cons bU
 have hS := hS.cons bV
 have hS := hS.cons cb
 clear hp bT bU bV cb
 show wpList _ _ _ [_, _, _] _ _
 refine list_step rfl (does_storeAll (g := bh) (cs := (frame_Get.c0 aU aV aW aX aY aZ a1 a2 a3 aE aF aG aH aI aJ aK aL aM aN aO aP aQ aR)) rfl (hS.get 0 rfl) (hS.get 3 rfl) (((bR cL).block bh (blk_lt bw)).trans bw) (by kernel_rfl) (by kernel_rfl) (by kernel_rfl)) ?_
 rintro dd b5 ⟨rfl, a7, hT⟩
 have bI := hT.below ba.1 (Nat.le_trans (a5.1).size aT) (ba.1).size
 have bB := hT.below ba.2.1 (Nat.le_trans (a5.2.1).size aT) (ba.2.1).size
 have bl := hT.below ba.2.2 aT (ba.2.2).size
 clear hT
 refine list_step rfl (R := fun v w' => Below _ _ w' ∧ (VI aS) v w') (does_val (x_assign rfl (hS.get 2 rfl)) rfl) ?_
 rintro cx cM ⟨hb, he⟩
 have bJ := below_step bI hb
 have bC := below_step bB hb
 have bm := below_step bl hb
 have bn := below_step (bR b5) hb
 obtain rfl : cx = .int .i64 aS := he
 refine hS.next (v := .int .i64 aS) (d := 8) rfl (by decide) (by rfl) ?_
 clear hS
 intro cR hS
 refine list_step rfl (R := fun v w' => Below _ _ w' ∧ (VI ab) v w') (does_val (x_assign rfl (hS.get 2 rfl)) rfl) ?_
 rintro cy ce ⟨hb, he⟩
 have bK := below_step bJ hb
 have bD := below_step bC hb
 have bo := below_step bm hb
 have bp := below_step bn hb
 have b7 := below_step (bR cM) hb
 obtain rfl : cy = .int .i64 ab := he
 refine hS.next (v := .int .i64 ab) (d := 9) rfl (by decide) (by rfl) ?_
 clear hS
 intro cS hS
 refine wpList_nil ?_
 refine cl _ _ ?_
 refine wp_seq_k (fun dh cm => ?_)
 refine wp_seq_k (fun di cn => ?_)
 refine reg_seq (I := I5_ w w3 a9 b5 ce) (ps := [VI ab, VB (!decide (ab = 0))]) (by kernel_rfl) ?_ ?_ rfl hS ⟨bK, bD, bo, bp, (bR ce)⟩ ?_ ?_
 ·exact bs5
 ·exact .v (.v (.nil))
 ·refine .ms 0 rfl rfl rfl ?_
  refine .on rfl (fun a w hS hI hp => does_val (x_bin rfl (hp.V 0 rfl rfl) (rfl) (b_neq _ _ _ _ _ _)) rfl) ?_
  exact .nil
 clear hS
 intro cT cf hS bk hp
 replace hS := ((((hS.nil).cons (hS.get 7 rfl)).cons (hS.get 6 rfl)).cons (hS.get 2 rfl)).cons (hS.get 0 rfl)
 have bW : sl _ 18 = .bool (!decide (ab = 0)) := hp 1 (by decide)
 have hS := hS.cons bW
 clear hp bW
 refine cn _ _ ?_
 refine wp_cond_false ((hS.get 0 rfl).trans (bF (congrArg (!·) (decide_eq_true c2)))) ?_
 refine wp_skip ?_
 refine cm _ _ ?_
 refine wp_seq_k (fun dj co => ?_)
 refine wp_seq_k (fun dk cp => ?_)
 refine reg_seq_tail 8 (I := I5_ w w3 a9 b5 cf) (ps := [IsV ((frame_Get.v1 aU aV aW aX aY aZ a1 a2 a3 aE aF aG aH aI aJ aK aL aM aN aO aP aQ aR)), IsV (.string a0), IsC (Kd.int .u8) (bytesOf a0), IsV (.tuple #[(frame_Get.v1 au av aw ax ay az aA aB aC ad ae af ag ah ai aj ak al am an ao ap aq), .int .i64 ar, .int .i64 ac]), IsV (.tuple #[(frame_Get.v1 au av aw ax ay az aA aB aC ad ae af ag ah ai aj ak al am an ao ap aq), .int .i64 ar, .int .i64 ac]), IsV ((frame_Get.v1 au av aw ax ay az aA aB aC ad ae af ag ah ai aj ak al am an ao ap aq)), VI ar, VI ac]) (by kernel_rfl) ?_ ?_ rfl hS ⟨bk.1, bk.2.1, bk.2.2.1, bk.2.2.2.1, (bR cf)⟩ ?_ ?_
 ·exact bs5
 ·exact .v (.v (.cons (Stays.c _ _) (.v (.v (.v (.v (.v (.nil))))))))
 ·refine .on rfl (fun a w hS hI hp => does_loadrow rfl (hS.get 2 rfl) (((hI.2.2.2.1).block bh (blk_lt a7)).trans a7) Try.underlying28 rfl (by kernel_rfl) rfl) ?_
  refine .ms 4 rfl rfl rfl ?_
  refine .on rfl (fun a w hS hI hp => does_bytes (e := 5) rfl (by kernel_rfl) (by kernel_rfl) (by kernel_rfl) (hp.V 1 rfl rfl) c1) ?_
  refine .on rfl (fun a w hS hI hp => (hp.V 2 rfl rfl).elim fun A_ h_ => h_.elim fun c_ h_ => h_.elim fun hv_ h_ => h_.elim fun hl_ hc_ => does_call (by kernel_rfl) (ar3 (hp.V 0 rfl rfl) (hv_) (rfl)) ((body_Get.calls k aU aV aW aX aY aZ a1 a2 a3 aE aF aG aH aI aJ aK aL aM aN aO aP aQ aR _ _ (bytesOf a0) 34 au av aw ax ay az aA aB aC ad ae af ag ah ai aj ak al am an ao ap aq ar ac _ hc_ hl_ cj).mono fun _ _ h => ⟨_, h.1, h.2, rfl⟩)) ?_
  refine .mv 3 rfl rfl rfl ?_
  iterate 3 refine .on rfl (fun a w hS hI hp => does_val (x_extract rfl (hp.V 4 rfl rfl) rfl) rfl) ?_
  exact .nil
 clear hS
 intro cU dv hS a6 hp
 replace hS := ((((hS.nil).cons (hS.get 4 rfl)).cons (hS.get 3 rfl)).cons (hS.get 2 rfl)).cons (hS.get 1 rfl)
 have bX : sl _ 24 = (frame_Get.v1 au av aw ax ay az aA aB aC ad ae af ag ah ai aj ak al am an ao ap aq) := hp 5 (by decide)
 have bY : sl _ 25 = .int .i64 ar := hp 6 (by decide)
 have bZ : sl _ 26 = .int .i64 ac := hp 7 (by decide)
 have hS := hS.cons bX
 have hS := hS.cons bY
 have hS := hS.cons bZ
 clear hp bX bY bZ
 show wpList _ _ _ [_, _, _] _ _
 refine list_step rfl (does_storeAll (g := bh) (cs := (frame_Get.c0 au av aw ax ay az aA aB aC ad ae af ag ah ai aj ak al am an ao ap aq)) rfl (hS.get 4 rfl) (hS.get 2 rfl) ((a6.2.2.2.1.block bh (blk_lt a7)).trans a7) (by kernel_rfl) (by kernel_rfl) (by kernel_rfl)) ?_
 rintro de bz ⟨rfl, a8, hT⟩
 have bL := hT.below a6.1 (Nat.le_trans (a5.1).size aT) (a6.1).size
 have bE := hT.below a6.2.1 (Nat.le_trans (a5.2.1).size aT) (a6.2.1).size
 have bq := hT.below a6.2.2.1 aT (a6.2.2.1).size
 clear hT
 refine list_step rfl (R := fun v w' => Below _ _ w' ∧ (VI ar) v w') (does_val (x_assign rfl (hS.get 1 rfl)) rfl) ?_
 rintro cz cN ⟨hb, he⟩
 have bM := below_step bL hb
 have bG := below_step bE hb
 have br := below_step bq hb
 have bs := below_step (bR bz) hb
 obtain rfl : cz = .int .i64 ar := he
 refine hS.next (v := .int .i64 ar) (d := 6) rfl (by decide) (by rfl) ?_
 clear hS
 intro cV hS
 refine list_step rfl (R := fun v w' => Below _ _ w' ∧ (VI ac) v w') (does_val (x_assign rfl (hS.get 1 rfl)) rfl) ?_
 rintro cA cg ⟨hb, he⟩
 have bN := below_step bM hb
 have bH := below_step bG hb
 have bt := below_step br hb
 have bu := below_step bs hb
 have b8 := below_step (bR cN) hb
 obtain rfl : cA = .int .i64 ac := he
 replace hS := (((((((hS.nil).cons (hS.get 7 rfl)).cons (hS.get 6 rfl)).cons (hS.get 5 rfl)).cons (hS.get 3 rfl)).cons (hS.get 2 rfl)).cons (hS.get 1 rfl)).cons (hS.get 0 rfl)
 refine hS.next (v := .int .i64 ac) (d := 9) rfl (by decide) (by rfl) ?_
 clear hS
 intro cW hS
 refine wpList_nil ?_
 refine cp _ _ ?_
 refine wp_seq_k (fun dl cq => ?_)
 refine reg_seq (I := I5_ w w3 a9 bz cg) (ps := [VI ac, VB (!decide (ac = 0))]) (by kernel_rfl) ?_ ?_ rfl hS ⟨bN, bH, bt, bu, (bR cg)⟩ ?_ ?_
 ·exact bs5
 ·exact .v (.v (.nil))
 ·refine .ms 0 rfl rfl rfl ?_
  refine .on rfl (fun a w hS hI hp => does_val (x_bin rfl (hp.V 0 rfl rfl) (rfl) (b_neq _ _ _ _ _ _)) rfl) ?_
  exact .nil
 clear hS
 intro cX a4 hS bb hp
 replace hS := (((((hS.nil).cons (hS.get 7 rfl)).cons (hS.get 6 rfl)).cons (hS.get 5 rfl)).cons (hS.get 1 rfl)).cons (hS.get 0 rfl)
 have b0 : sl _ 28 = .bool (!decide (ac = 0)) := hp 1 (by decide)
 have hS := hS.cons b0
 clear hp b0
 refine cq _ _ ?_
 refine wp_cond_false ((hS.get 0 rfl).trans (bF (congrArg (!·) (decide_eq_true c3)))) ?_
 refine wp_skip ?_
 refine co _ _ ?_
 refine wp_seq_k (fun dm cr => ?_)
 refine wp_seq_k (fun dn ct => ?_)
 replace hS := (((((hS.nil).cons (hS.get 5 rfl)).cons (hS.get 4 rfl)).cons (hS.get 3 rfl)).cons (hS.get 2 rfl)).cons (hS.get 0 rfl)
 refine reg_seq (I := I5_ w w3 a9 bz a4) (ps := [IsV (.string a0), IsC (Kd.int .u8) (bytesOf a0), VI ar, IsT (fun v0_ => #[v0_, .int .i64 aD]) (IsR k43 43 a4.heap.size aa), IsT (fun v0_ => #[v0_, .int .i64 aD]) (IsR k43 43 a4.heap.size aa), IsR k43 43 a4.heap.size aa, VI aD, IsR k43 43 a4.heap.size aa, VI aD]) (by kernel_rfl) ?_ ?_ rfl hS ⟨bb.1, bb.2.1, bb.2.2.1, bb.2.2.2.1, (bR a4)⟩ ?_ ?_
 ·exact bs5
 ·exact .v (.cons (Stays.c _ _) (.v (.cons (Stays.t _ (Stays.r _ _ _ _)) (.cons (Stays.t _ (Stays.r _ _ _ _)) (.cons (Stays.r _ _ _ _) (.v (.cons (Stays.r _ _ _ _) (.v (.nil)))))))))
 ·refine .ms 4 rfl rfl rfl ?_
  refine .on rfl (fun a w hS hI hp => does_bytes (e := 5) rfl (by kernel_rfl) (by kernel_rfl) (by kernel_rfl) (hp.V 0 rfl rfl) c1) ?_
  refine .ms 1 rfl rfl rfl ?_
  refine .on rfl (fun a w hS hI hp => (hp.V 1 rfl rfl).elim fun A_ h_ => h_.elim fun c_ h_ => h_.elim fun hv_ h_ => h_.elim fun hl_ hc_ => does_call (by kernel_rfl) (ar2 (hv_) (hp.V 2 rfl rfl)) ((tlv_Get.calls k _ _ (bytesOf a0) ar aa aD _ hc_ hl_ ck).mono fun _ _ h => h.elim fun v0 h => ⟨_, h.1, h.2.2, v0, rfl, Kd.R_lower h.2.1 hI.2.2.2.2.size⟩)) ?_
  refine .on rfl (fun a w hS hI hp => does_val (x_move rfl rfl) (hp.V 3 rfl rfl)) ?_
  refine .on rfl (fun a w hS hI hp => (hp.V 4 rfl rfl).elim fun v0 h0 => does_val (x_extract rfl h0.1 rfl) h0.2) ?_
  refine .on rfl (fun a w hS hI hp => (hp.V 4 rfl rfl).elim fun v0 h0 => does_val (x_extract rfl h0.1 rfl) rfl) ?_
  refine .on rfl (fun a w hS hI hp => does_val (x_assign rfl rfl) (hp.V 5 rfl rfl)) ?_
  refine .asg 6 rfl rfl rfl ?_
  exact .nil
 clear hS
 intro cY bA hS bi hp
 replace hS := ((hS.nil).cons (hS.get 3 rfl)).cons (hS.get 2 rfl)
 obtain ⟨bd, be, b4, db, c9⟩ := Kd.R_reads (show Kd.R k43 43 bA a4.heap.size (fun _ => True) (sl _ 5) aa from hp 7 (by decide))
 have cw : Kd.R k43 43 bA a4.heap.size (fun _ => True) (.slice bd aa.length be) aa := b4 ▸ (hp 7 (by decide))
 have cc : sl _ 9 = .int .i64 aD := hp 8 (by decide)
 have hS := hS.cons b4
 have hS := hS.cons cc
 clear hp b4 cc
 refine ct _ _ ?_
 refine wp_seq_k (fun dp cu => ?_)
 refine reg_seq (I := I6_ w w3 a9 bz a4 bA) (ps := [VI aD, VB (!decide (aD = 0))]) (by kernel_rfl) ?_ ?_ rfl hS ⟨bi.1, bi.2.1, bi.2.2.1, bi.2.2.2.1, bi.2.2.2.2, (bR bA)⟩ ?_ ?_
 ·exact bs6
 ·exact .v (.v (.nil))
 ·refine .ms 0 rfl rfl rfl ?_
  refine .on rfl (fun a w hS hI hp => does_val (x_bin rfl (hp.V 0 rfl rfl) (rfl) (b_neq _ _ _ _ _ _)) rfl) ?_
  exact .nil
 clear hS
 intro cZ ch hS bc hp
 have b1 : sl _ 37 = .bool (!decide (aD = 0)) := hp 1 (by decide)
 have hS := hS.cons b1
 clear hp b1
 refine cu _ _ ?_
 refine wp_cond_false ((hS.get 0 rfl).trans (bF (congrArg (!·) (decide_eq_true c4)))) ?_
 refine wp_skip ?_
 refine cr _ _ ?_
 refine wp_seq_k (fun dq c8 => ?_)
 refine wp_seq_k (fun dr cv => ?_)
 refine reg_seq_tail 2 (I := I7_ w w3 a9 bz a4 bA ch) (ps := [IsV ((frame_Get.v1 au av aw ax ay az aA aB aC ad ae af ag ah ai aj ak al am an ao ap aq)), IsV (.slice bd aa.length be)]) (by kernel_rfl) ?_ ?_ rfl hS ⟨bc.1, bc.2.1, bc.2.2.1, bc.2.2.2.1, bc.2.2.2.2.1, bc.2.2.2.2.2, (bR ch)⟩ ?_ ?_
 ·exact bs7
 ·exact .v (.v (.nil))
 ·refine .on rfl (fun a w hS hI hp => does_loadrow rfl (hS.get 3 rfl) (((hI.2.2.2.1).block bh (blk_lt a8)).trans a8) Try.underlying28 rfl (by kernel_rfl) rfl) ?_
  refine .ms 2 rfl rfl rfl ?_
  exact .nil
 clear hS
 intro c5 dw hS bj hp
 replace hS := (hS.nil).cons (hS.get 4 rfl)
 have b2 : sl _ 38 = (frame_Get.v1 au av aw ax ay az aA aB aC ad ae af ag ah ai aj ak al am an ao ap aq) := hp 0 (by decide)
 have b3 : sl _ 39 = .slice bd aa.length be := hp 1 (by decide)
 have hS := hS.cons b2
 have hS := hS.cons b3
 clear hp b2 b3
 show wpList _ _ _ [_, _, _] _ _
 refine list_step rfl (does_storeAll (g := g4) (cs := (frame_Get.c0 au av aw ax ay az aA aB aC ad ae af ag ah ai aj ak al am an ao ap aq)) rfl (hS.get 2 rfl) (hS.get 1 rfl) ((bj.2.1.block g4 (blk_lt bg)).trans bg) (by kernel_rfl) (by kernel_rfl) (by kernel_rfl)) ?_
 rintro df cO ⟨rfl, bx, hT⟩
 have bS := hT.row (Kd.R_below cw bj.2.2.2.2.2.1) (Nat.lt_of_lt_of_le (blk_lt bg) (bb.2.1).size)
 have da := (Kd.R_reads' bS).2.2
 have dc := hT.blk ((bj.2.2.2.1.block bh (blk_lt a8)).trans a8) (Nat.ne_of_gt (Nat.lt_of_lt_of_le (Nat.lt_of_lt_of_le (blk_lt bg) (a5.2.1).size) aT))
 have bO := hT.below bj.1 b6 (bj.1).size
 clear hT
 refine list_step rfl (R := fun v w' => Below _ _ w' ∧ (IsV (.slice bd aa.length be)) v w') (does_val (x_assign rfl (hS.get 0 rfl)) rfl) ?_
 rintro cB cP ⟨hb, he⟩
 have bP := below_step bO hb
 have bv := below_step (bR cO) hb
 obtain rfl : cB = .slice bd aa.length be := he
 refine hS.next (v := .slice bd aa.length be) (d := 3) rfl (by decide) (by rfl) ?_
 clear hS
 intro c6 hS
 refine list_step rfl (R := fun v w' => Below _ _ w' ∧ (VI 0) v w') (does_val (x_assign rfl (rfl)) rfl) ?_
 rintro cC dx ⟨hb, he⟩
 have bQ := below_step bP hb
 have bf := below_step bv hb
 have b9 := below_step (bR cP) hb
 obtain rfl : cC = .int .i64 0 := he
 refine hS.next (v := .int .i64 0) (d := 4) rfl (by decide) (by rfl) ?_
 clear hS
 intro c7 hS
 refine wpList_nil ?_
 refine cv _ _ ?_
 refine wp_ret ?_
 (try simp only [Exit.then, Exit.inBlock, Exit.jump, Exit.noGoto])
 exact bodyPost_ret (v := .tuple #[(frame_Get.v1 au av aw ax ay az aA aB aC ad ae af ag ah ai aj ak al am an ao ap aq), .slice bd aa.length be, .int .i64 0]) (results_list (rs := [.cell 2 28, .tmp 3, .tmp 4]) rfl (by simp) (Vals.cell g4 28 (frame_Get.c0 au av aw ax ay az aA aB aC ad ae af ag ah ai aj ak al am an ao ap aq) (0, 0) _ (hS.get 4 rfl) ((bf.block g4 (blk_lt bx)).trans bx) Try.underlying28 rfl (by kernel_rfl) (Vals.at (hS.get 1 rfl) (Vals.at (hS.get 0 rfl) .nil)))) hS.nodef ⟨.slice bd aa.length be, rfl, Kd.R_lower (Kd.R_below bS bf) (bb.1).size, bQ⟩
def carillonlaw09_awake.f (k : Nat)  : Option (Bool) := (frame_Put.f k 0 0 0 0 0 0 0 0 0 0 0 0 0 0 0 0 0 0 0 0 0 0 0 []).bind fun t5 => ((frame_Get.f k t5.1).bind fun t9 => (if t5.2 = true then (if (t5.1.size : Int) = 44 then (if t9.2.2.2.2.2.2.2.2.2.2.2.2.2.2.2.2.2.2.2.2.2.2.2.2 = 0 then (if ((t9.1 == 0) && ((t9.2.1 == 0) && ((t9.2.2.1 == 0) && ((t9.2.2.2.1 == 0) && ((t9.2.2.2.2.1 == 0) && ((t9.2.2.2.2.2.1 == 0) && ((t9.2.2.2.2.2.2.1 == 0) && ((t9.2.2.2.2.2.2.2.1 == 0) && ((t9.2.2.2.2.2.2.2.2.1 == 0) && ((t9.2.2.2.2.2.2.2.2.2.1 == 0) && ((t9.2.2.2.2.2.2.2.2.2.2.1 == 0) && ((t9.2.2.2.2.2.2.2.2.2.2.2.1 == 0) && ((t9.2.2.2.2.2.2.2.2.2.2.2.2.1 == 0) && ((t9.2.2.2.2.2.2.2.2.2.2.2.2.2.1 == 0) && ((t9.2.2.2.2.2.2.2.2.2.2.2.2.2.2.1 == 0) && ((t9.2.2.2.2.2.2.2.2.2.2.2.2.2.2.2.1 == 0) && ((t9.2.2.2.2.2.2.2.2.2.2.2.2.2.2.2.2.1 == 0) && ((t9.2.2.2.2.2.2.2.2.2.2.2.2.2.2.2.2.2.1 == 0) && ((t9.2.2.2.2.2.2.2.2.2.2.2.2.2.2.2.2.2.2.1 == 0) && ((t9.2.2.2.2.2.2.2.2.2.2.2.2.2.2.2.2.2.2.2.1 == 0) && ((t9.2.2.2.2.2.2.2.2.2.2.2.2.2.2.2.2.2.2.2.2.1 == 0) && ((t9.2.2.2.2.2.2.2.2.2.2.2.2.2.2.2.2.2.2.2.2.2.1 == 0) && (t9.2.2.2.2.2.2.2.2.2.2.2.2.2.2.2.2.2.2.2.2.2.2.1 == 0))))))))))))))))))))))) = true then (some (decide ((t9.2.2.2.2.2.2.2.2.2.2.2.2.2.2.2.2.2.2.2.2.2.2.2.1.length : Int) = 0))) else (none)) else (none)) else (none)) else (none)))
open Go.Proofs.Ytiomlbkakiienaa.E in
set_option maxRecDepth 100000 in
theorem carillonlaw09_awake.eql28 (x y : Operand) (w : World) (a0 a1 a2 a3 a4 a5 a6 a7 a8 a9 a10 a11 a12 a13 a14 a15 a16 a17 a18 a19 a20 a21 a22 b0 b1 b2 b3 b4 b5 b6 b7 b8 b9 b10 b11 b12 b13 b14 b15 b16 b17 b18 b19 b20 b21 b22 : Int) : (do eqGuard .eql 28 x y (.agg #[.int .i64 a0, .int .i64 a1, .int .i64 a2, .int .i64 a3, .int .u64 a4, .int .i64 a5, .int .i64 a6, .int .i64 a7, .int .i64 a8, .int .u64 a9, .int .i64 a10, .int .i64 a11, .int .i64 a12, .int .i64 a13, .int .i64 a14, .int .i64 a15, .int .i64 a16, .int .u64 a17, .int .i64 a18, .int .i64 a19, .int .i64 a20, .int .i64 a21, .int .i64 a22]) (.agg #[.int .i64 b0, .int .i64 b1, .int .i64 b2, .int .i64 b3, .int .u64 b4, .int .i64 b5, .int .i64 b6, .int .i64 b7, .int .i64 b8, .int .u64 b9, .int .i64 b10, .int .i64 b11, .int .i64 b12, .int .i64 b13, .int .i64 b14, .int .i64 b15, .int .i64 b16, .int .u64 b17, .int .i64 b18, .int .i64 b19, .int .i64 b20, .int .i64 b21, .int .i64 b22]); binOp .eql 28 (.agg #[.int .i64 a0, .int .i64 a1, .int .i64 a2, .int .i64 a3, .int .u64 a4, .int .i64 a5, .int .i64 a6, .int .i64 a7, .int .i64 a8, .int .u64 a9, .int .i64 a10, .int .i64 a11, .int .i64 a12, .int .i64 a13, .int .i64 a14, .int .i64 a15, .int .i64 a16, .int .u64 a17, .int .i64 a18, .int .i64 a19, .int .i64 a20, .int .i64 a21, .int .i64 a22]) (.agg #[.int .i64 b0, .int .i64 b1, .int .i64 b2, .int .i64 b3, .int .u64 b4, .int .i64 b5, .int .i64 b6, .int .i64 b7, .int .i64 b8, .int .u64 b9, .int .i64 b10, .int .i64 b11, .int .i64 b12, .int .i64 b13, .int .i64 b14, .int .i64 b15, .int .i64 b16, .int .u64 b17, .int .i64 b18, .int .i64 b19, .int .i64 b20, .int .i64 b21, .int .i64 b22]) : Sem Value).run Try.prog w = .ok (.bool ((a0 == b0) && ((a1 == b1) && ((a2 == b2) && ((a3 == b3) && ((a4 == b4) && ((a5 == b5) && ((a6 == b6) && ((a7 == b7) && ((a8 == b8) && ((a9 == b9) && ((a10 == b10) && ((a11 == b11) && ((a12 == b12) && ((a13 == b13) && ((a14 == b14) && ((a15 == b15) && ((a16 == b16) && ((a17 == b17) && ((a18 == b18) && ((a19 == b19) && ((a20 == b20) && ((a21 == b21) && (a22 == b22)))))))))))))))))))))))) w := by
  have hu3 := Try.underlying3
  have hu22 := Try.underlying22
  have hu24 := Try.underlying24
  have hu26 := Try.underlying26
  have hu28 := Try.underlying28
  conv => lhs; simp [eqGuard, go_sem, hu3, hu22, hu24, hu26, hu28]
  exact ite_and (ite_and (ite_and (ite_and (ite_and (ite_and (ite_and (ite_and (ite_and (ite_and (ite_and (ite_and (ite_and (ite_and (ite_and (ite_and (ite_and (ite_and (ite_and (ite_and (ite_and (ite_and (ite_last))))))))))))))))))))))
abbrev carillonlaw09_awake.v0 (x0 x1 x2 x3 x4 x5 x6 x7 x8 x9 x10 x11 x12 x13 x14 x15 x16 x17 x18 x19 x20 x21 x22 : Int) : Value := .agg #[.int .i64 x0, .int .i64 x1, .int .i64 x2, .int .i64 x3, .int .u64 x4, .int .i64 x5, .int .i64 x6, .int .i64 x7, .int .i64 x8, .int .u64 x9, .int .i64 x10, .int .i64 x11, .int .i64 x12, .int .i64 x13, .int .i64 x14, .int .i64 x15, .int .i64 x16, .int .u64 x17, .int .i64 x18, .int .i64 x19, .int .i64 x20, .int .i64 x21, .int .i64 x22]
abbrev carillonlaw09_awake.c1 (x0 x1 x2 x3 x4 x5 x6 x7 x8 x9 x10 x11 x12 x13 x14 x15 x16 x17 x18 x19 x20 x21 x22 : Int) : Array Value := #[.int .i64 x0, .int .i64 x1, .int .i64 x2, .int .i64 x3, .int .u64 x4, .int .i64 x5, .int .i64 x6, .int .i64 x7, .int .i64 x8, .int .u64 x9, .int .i64 x10, .int .i64 x11, .int .i64 x12, .int .i64 x13, .int .i64 x14, .int .i64 x15, .int .i64 x16, .int .u64 x17, .int .i64 x18, .int .i64 x19, .int .i64 x20, .int .i64 x21, .int .i64 x22]
open Go.Proofs.Ytiomlbkakiienaa.E in
set_option maxHeartbeats 60000000 in
set_option maxRecDepth 100000 in
theorem carillonlaw09_awake.calls (k : Nat) (r : Bool) (w : World) (h : carillonlaw09_awake.f k  = some r) :
    Calls Try.prog 10 #[] w fun e w' => e = .returned (.bool r) ∧ Below w.heap.size w w' := by
 have H := h
 clear h
 unfold carillonlaw09_awake.f at H
 obtain ⟨t5, bk, H⟩ := Option.bind_eq_some_iff.mp H
 obtain ⟨aq, aC⟩ := t5
 (try dsimp only at H)
 obtain ⟨t9, bl, H⟩ := Option.bind_eq_some_iff.mp H
 obtain ⟨ar, au, av, aw, ax, ay, az, aA, aB, ac, ad, ae, af, ag, ah, ai, aj, ak, al, am, an, ao, ap, aa, ab⟩ := t9
 (try dsimp only at H)
 by_cases c1 : aC = true
 rotate_left
 ·rw [if_neg c1] at H; exact absurd H (by simp)
 rw [if_pos c1] at H
 by_cases c2 : (aq.size : Int) = 44
 rotate_left
 ·rw [if_neg c2] at H; exact absurd H (by simp)
 rw [if_pos c2] at H
 by_cases c3 : ab = 0
 rotate_left
 ·rw [if_neg c3] at H; exact absurd H (by simp)
 rw [if_pos c3] at H
 by_cases c4 : ((ar == 0) && ((au == 0) && ((av == 0) && ((aw == 0) && ((ax == 0) && ((ay == 0) && ((az == 0) && ((aA == 0) && ((aB == 0) && ((ac == 0) && ((ad == 0) && ((ae == 0) && ((af == 0) && ((ag == 0) && ((ah == 0) && ((ai == 0) && ((aj == 0) && ((ak == 0) && ((al == 0) && ((am == 0) && ((an == 0) && ((ao == 0) && (ap == 0))))))))))))))))))))))) = true
 rotate_left
 ·rw [if_neg c4] at H; exact absurd H (by simp)
 rw [if_pos c4] at H
 obtain rfl := Option.some.inj H
 refine calls_of_wp (fn := Try.f10) (by kernel_rfl) rfl ?_
 have hS := St.enter #[] 37 (by simp) [] (by simp)
 have bm := Below.refl w.heap.size w
 refine wp_seq_k (fun K1 bn => ?_)
 refine reg_seq (I := I1_ w) (ps := [VB false]) (by kernel_rfl) ?_ ?_ rfl hS bm ?_ ?_
 ·exact bs1
 ·exact .v (.nil)
 ·refine .on rfl (fun a w hS hI hp => does_val (x_assign rfl (rfl)) rfl) ?_
  exact .nil
 clear hS
 intro bC w3 hS bq hp
 clear hp
 refine bn _ _ ?_
 refine wp_seq_k (fun K4 bo => ?_)
 refine reg_seq (I := I2_ w w3) (ps := [IsV ((carillonlaw09_awake.v0 0 0 0 0 0 0 0 0 0 0 0 0 0 0 0 0 0 0 0 0 0 0 0)), IsV (.tuple #[.string aq, .bool aC]), IsV (.tuple #[.string aq, .bool aC]), IsV (.string aq), VB aC, IsV (.string aq), VB aC]) (by kernel_rfl) ?_ ?_ rfl hS ⟨bq, (bR w3)⟩ ?_ ?_
 ·exact bs2
 ·exact .v (.v (.v (.v (.v (.v (.v (.nil)))))))
 ·refine .on rfl (fun a w hS hI hp => does_val (x_build (vs := []) rfl (by rw [Array.toList_map]; exact (show [] = _ from rfl)) (by kernel_rfl)) rfl) ?_
  refine .on rfl (fun a w hS hI hp => does_call (by kernel_rfl) (ar2 (hp.V 0 rfl rfl) (rfl)) ((frame_Put.calls k 0 0 0 0 0 0 0 0 0 0 0 0 0 0 0 0 0 0 0 0 0 0 0 _ _ [] aq aC _ (Kd.C_nil _ _) (Nat.le_refl _) bk).mono fun _ _ h => ⟨_, h.1, h.2, rfl⟩)) ?_
  refine .mv 1 rfl rfl rfl ?_
  iterate 2 refine .on rfl (fun a w hS hI hp => does_val (x_extract rfl (hp.V 2 rfl rfl) rfl) rfl) ?_
  refine .asg 3 rfl rfl rfl ?_
  refine .asg 4 rfl rfl rfl ?_
  exact .nil
 clear hS
 intro bD w7 hS bb hp
 have aY : sl _ 1 = .string aq := hp 5 (by decide)
 have aZ : sl _ 2 = .bool aC := hp 6 (by decide)
 have hS := hS.cons aY
 have hS := hS.cons aZ
 clear hp aY aZ
 refine bo _ _ ?_
 refine wp_seq_k (fun K8 bp => ?_)
 refine reg_seq_tail 7 (I := I2_ w w7) (ps := [IsV (.string aq), IsT (fun v0_ => #[(carillonlaw09_awake.v0 ar au av aw ax ay az aA aB ac ad ae af ag ah ai aj ak al am an ao ap), v0_, .int .i64 ab]) (IsR k43 43 w7.heap.size aa), IsT (fun v0_ => #[(carillonlaw09_awake.v0 ar au av aw ax ay az aA aB ac ad ae af ag ah ai aj ak al am an ao ap), v0_, .int .i64 ab]) (IsR k43 43 w7.heap.size aa), IsV ((carillonlaw09_awake.v0 ar au av aw ax ay az aA aB ac ad ae af ag ah ai aj ak al am an ao ap)), IsR k43 43 w7.heap.size aa, VI ab, IsB (carillonlaw09_awake.c1 0 0 0 0 0 0 0 0 0 0 0 0 0 0 0 0 0 0 0 0 0 0 0) 28 w7.heap.size]) (by kernel_rfl) ?_ ?_ rfl hS ⟨bb.1, (bR w7)⟩ ?_ ?_
 ·exact bs2
 ·exact .v (.cons (Stays.t _ (Stays.r _ _ _ _)) (.cons (Stays.t _ (Stays.r _ _ _ _)) (.v (.cons (Stays.r _ _ _ _) (.v (.cons (Stays.b _ _ _) (.nil)))))))
 ·refine .ms 1 rfl rfl rfl ?_
  refine .on rfl (fun a w hS hI hp => does_call (by kernel_rfl) (ar1 (hp.V 0 rfl rfl)) ((frame_Get.calls k aq ar au av aw ax ay az aA aB ac ad ae af ag ah ai aj ak al am an ao ap aa ab _  bl).mono fun _ _ h => h.elim fun v0 h => ⟨_, h.1, h.2.2, v0, rfl, Kd.R_lower h.2.1 hI.2.size⟩)) ?_
  refine .on rfl (fun a w hS hI hp => does_val (x_move rfl rfl) (hp.V 1 rfl rfl)) ?_
  refine .on rfl (fun a w hS hI hp => (hp.V 2 rfl rfl).elim fun v0 h0 => does_val (x_extract rfl h0.1 rfl) rfl) ?_
  refine .on rfl (fun a w hS hI hp => (hp.V 2 rfl rfl).elim fun v0 h0 => does_val (x_extract rfl h0.1 rfl) h0.2) ?_
  refine .on rfl (fun a w hS hI hp => (hp.V 2 rfl rfl).elim fun v0 h0 => does_val (x_extract rfl h0.1 rfl) rfl) ?_
  refine .on rfl (fun a w hS hI hp => does_var (x_alloc rfl (by kernel_rfl)) (hI.2).size) ?_
  exact .nil
 clear hS
 intro bs aL hS aE hp
 have aU : sl _ 14 = (carillonlaw09_awake.v0 ar au av aw ax ay az aA aB ac ad ae af ag ah ai aj ak al am an ao ap) := hp 3 (by decide)
 obtain ⟨aF, aG, aP, bz, bw⟩ := Kd.R_reads (show Kd.R k43 43 aL w7.heap.size (fun _ => True) (sl _ 15) aa from hp 4 (by decide))
 have bf : Kd.R k43 43 aL w7.heap.size (fun _ => True) (.slice aF aa.length aG) aa := aP ▸ (hp 4 (by decide))
 have aV : sl _ 16 = .int .i64 ab := hp 5 (by decide)
 obtain ⟨aQ, ba, aK, aD⟩ := (show IsB _ 28 _ (sl _ 3) _ from hp 6 (by decide))
 have hS := hS.cons aU
 have hS := hS.cons aP
 have hS := hS.cons aV
 have hS := hS.cons ba
 clear hp aU aP aV ba
 show wpList _ _ _ [_, _, _] _ _
 refine list_step rfl (does_storeAll (g := aQ) (cs := (carillonlaw09_awake.c1 ar au av aw ax ay az aA aB ac ad ae af ag ah ai aj ak al am an ao ap)) rfl (hS.get 0 rfl) (hS.get 3 rfl) (((bR aL).block aQ (blk_lt aD)).trans aD) (by kernel_rfl) (by kernel_rfl) (by kernel_rfl)) ?_
 rintro bA bc ⟨rfl, aJ, hT⟩
 have bg := hT.rowT rfl (((bR aL).block aQ (blk_lt aD)).trans aD) (Kd.R_below bf (bR aL)) (by decide)
 have bx := (Kd.R_reads' bg).2.2
 have aR := hT.below aE.1 (Nat.le_trans (bb.1).size aK) (aE.1).size
 have aM := hT.below aE.2 aK (aE.2).size
 clear hT
 refine list_step rfl (R := fun v w' => Below _ _ w' ∧ (IsV (.slice aF aa.length aG)) v w') (does_val (x_assign rfl (hS.get 2 rfl)) rfl) ?_
 rintro bi br ⟨hb, he⟩
 have aS := below_step aR hb
 have aN := below_step aM hb
 have aH := below_step (bR bc) hb
 obtain rfl : bi = .slice aF aa.length aG := he
 refine hS.next (v := .slice aF aa.length aG) (d := 4) rfl (by decide) (by rfl) ?_
 clear hS
 intro bt hS
 refine list_step rfl (R := fun v w' => Below _ _ w' ∧ (VI ab) v w') (does_val (x_assign rfl (hS.get 2 rfl)) rfl) ?_
 rintro bj bd ⟨hb, he⟩
 have aT := below_step aS hb
 have aO := below_step aN hb
 have aI := below_step aH hb
 have aW := below_step (bR br) hb
 obtain rfl : bj = .int .i64 ab := he
 refine hS.next (v := .int .i64 ab) (d := 5) rfl (by decide) (by rfl) ?_
 clear hS
 intro bu hS
 refine wpList_nil ?_
 refine bp _ _ ?_
 refine wp_seq_k (fun bB be => ?_)
 refine reg_seq (I := I4_ w w7 bc bd) (ps := [VB aC, VB aC, IsV (.string aq), VI (aq.size : Int), VB (decide ((aq.size : Int) = 44)), VB (decide ((aq.size : Int) = 44)), VB (decide ((aq.size : Int) = 44)), VI ab, VB (decide (ab = 0)), VB (decide (ab = 0)), VB (decide (ab = 0)), IsV ((carillonlaw09_awake.v0 ar au av aw ax ay az aA aB ac ad ae af ag ah ai aj ak al am an ao ap)), IsV ((carillonlaw09_awake.v0 0 0 0 0 0 0 0 0 0 0 0 0 0 0 0 0 0 0 0 0 0 0 0)), VB ((ar == 0) && ((au == 0) && ((av == 0) && ((aw == 0) && ((ax == 0) && ((ay == 0) && ((az == 0) && ((aA == 0) && ((aB == 0) && ((ac == 0) && ((ad == 0) && ((ae == 0) && ((af == 0) && ((ag == 0) && ((ah == 0) && ((ai == 0) && ((aj == 0) && ((ak == 0) && ((al == 0) && ((am == 0) && ((an == 0) && ((ao == 0) && (ap == 0))))))))))))))))))))))), VB ((ar == 0) && ((au == 0) && ((av == 0) && ((aw == 0) && ((ax == 0) && ((ay == 0) && ((az == 0) && ((aA == 0) && ((aB == 0) && ((ac == 0) && ((ad == 0) && ((ae == 0) && ((af == 0) && ((ag == 0) && ((ah == 0) && ((ai == 0) && ((aj == 0) && ((ak == 0) && ((al == 0) && ((am == 0) && ((an == 0) && ((ao == 0) && (ap == 0))))))))))))))))))))))), VB ((ar == 0) && ((au == 0) && ((av == 0) && ((aw == 0) && ((ax == 0) && ((ay == 0) && ((az == 0) && ((aA == 0) && ((aB == 0) && ((ac == 0) && ((ad == 0) && ((ae == 0) && ((af == 0) && ((ag == 0) && ((ah == 0) && ((ai == 0) && ((aj == 0) && ((ak == 0) && ((al == 0) && ((am == 0) && ((an == 0) && ((ao == 0) && (ap == 0))))))))))))))))))))))), IsV (.slice aF aa.length aG), VI (aa.length : Int), VB (decide ((aa.length : Int) = 0)), VB (decide ((aa.length : Int) = 0)), VB (decide ((aa.length : Int) = 0))]) (by kernel_rfl) ?_ ?_ rfl hS ⟨aT, aO, aI, (bR bd)⟩ ?_ ?_
 ·exact bs4
 ·exact .v (.v (.v (.v (.v (.v (.v (.v (.v (.v (.v (.v (.v (.v (.v (.v (.v (.v (.v (.v (.v (.nil)))))))))))))))))))))
 ·refine .ms 6 rfl rfl rfl ?_
  refine .mv 0 rfl rfl rfl ?_
  refine .oy 1 18 rfl rfl c1 (fun a w hS hI hp => does_val (x_move rfl (hS.get 7 rfl)) rfl) ?_
  refine .oy 1 18 rfl rfl c1 (fun a w hS hI hp => does_val (x_lenS rfl (by kernel_rfl) (hp.V 2 rfl rfl)) rfl) ?_
  refine .oy 1 18 rfl rfl c1 (fun a w hS hI hp => does_val (x_bin rfl (hp.V 3 rfl rfl) (rfl) (b_eql _ _ _ _ _ _)) rfl) ?_
  refine .pt 1 4 rfl rfl rfl c1 rfl ?_
  refine .mv 5 rfl rfl rfl ?_
  refine .oy 6 23 rfl rfl ((decide_eq_true c2)) (fun a w hS hI hp => does_val (x_move rfl (hS.get 0 rfl)) rfl) ?_
  refine .oy 6 23 rfl rfl ((decide_eq_true c2)) (fun a w hS hI hp => does_val (x_bin rfl (hp.V 7 rfl rfl) (rfl) (b_eql _ _ _ _ _ _)) rfl) ?_
  refine .pt 6 8 rfl rfl rfl ((decide_eq_true c2)) rfl ?_
  refine .mv 9 rfl rfl rfl ?_
  refine .oy 10 27 rfl rfl ((decide_eq_true c3)) (fun a w hS hI hp => does_loadrow rfl (hS.get 2 rfl) (((hI.2.2.1).block aQ (blk_lt aJ)).trans aJ) Try.underlying28 rfl (by kernel_rfl) rfl) ?_
  refine .oy 10 27 rfl rfl ((decide_eq_true c3)) (fun a w hS hI hp => does_val (x_build (vs := []) rfl (by rw [Array.toList_map]; exact (show [] = _ from rfl)) (by kernel_rfl)) rfl) ?_
  refine .oy 10 27 rfl rfl ((decide_eq_true c3)) (fun a w hS hI hp => does_val (x_bin rfl (hp.V 11 rfl rfl) (hp.V 12 rfl rfl) (carillonlaw09_awake.eql28 _ _ _ ar au av aw ax ay az aA aB ac ad ae af ag ah ai aj ak al am an ao ap 0 0 0 0 0 0 0 0 0 0 0 0 0 0 0 0 0 0 0 0 0 0 0)) rfl) ?_
  refine .pt 10 13 rfl rfl rfl ((decide_eq_true c3)) rfl ?_
  refine .mv 14 rfl rfl rfl ?_
  refine .oy 15 32 rfl rfl c4 (fun a w hS hI hp => does_val (x_move rfl (hS.get 1 rfl)) rfl) ?_
  refine .oy 15 32 rfl rfl c4 (fun a w hS hI hp => does_val (x_len (e := 43) rfl (by kernel_rfl) (hp.V 16 rfl rfl)) rfl) ?_
  refine .oy 15 32 rfl rfl c4 (fun a w hS hI hp => does_val (x_bin rfl (hp.V 17 rfl rfl) (rfl) (b_eql _ _ _ _ _ _)) rfl) ?_
  refine .pt 15 18 rfl rfl rfl c4 rfl ?_
  refine .asg 19 rfl rfl rfl ?_
  exact .nil
 clear hS
 intro bv bE hS bh hp
 replace hS := hS.nil
 have aX : sl _ 0 = .bool (decide ((aa.length : Int) = 0)) := hp 20 (by decide)
 have hS := hS.cons aX
 clear hp aX
 refine be _ _ ?_
 refine wp_ret ?_
 (try simp only [Exit.then, Exit.inBlock, Exit.jump, Exit.noGoto])
 exact bodyPost_ret (v := .bool (decide ((aa.length : Int) = 0))) (results_single rfl (Vals.at (hS.get 0 rfl) .nil)) hS.nodef ⟨rfl, bh.1⟩
def carillonlaw00_Tlvs.f (l0 : List (S43)) : Option ((List (S43))) := if ([] : List (S43)).length + l0.length < 5864062014805 then (some (([] : List (S43)) ++ l0)) else (none)
set_option maxHeartbeats 8000000 in
set_option maxRecDepth 100000 in
theorem carillonlaw00_Tlvs.calls (A0 : Option Addr) (c0 : Nat) (l0 : List (S43)) (r : List (S43)) (w : World) (hr0 : Kd.C k43 w A0 l0.length l0) (hc0 : l0.length ≤ c0) (h : carillonlaw00_Tlvs.f l0 = some r) :
    Calls Try.prog 12 #[.slice A0 l0.length c0] w fun e w' => ∃ v0_ : Value, e = .returned (v0_) ∧ Kd.R k43 43 w' w.heap.size (fun _ => True) v0_ r ∧ Below w.heap.size w w' := by
  have HR0 := Aside0.mk hr0
  have HC0 := Aside0.mk hc0
  clear hr0 hc0
  have HB := Aside0.mk (Below.refl w.heap.size w)
  have H : (if ([] : List (S43)).length + l0.length < 5864062014805 then (some (([] : List (S43)) ++ l0)) else (none)) = some r := h
  clear h
  by_cases c2 : ([] : List (S43)).length + l0.length < 5864062014805
  · rw [if_pos c2] at H
    have LMc2 := Aside0.mk c2
    clear c2
    obtain ⟨y151, hy151⟩ : ∃ y_ : List (S43), y_ = (([] : List (S43)) ++ l0) := ⟨_, rfl⟩
    replace H : (some y151) = some r := by first | (rw [hy151]; with_reducible exact H) | (have H2_ := (Option.bind_some _ _).symm.trans H; rw [hy151]; with_reducible exact H2_) | (have H2_ := (Option.bind_some _ _).symm.trans H; with_reducible exact H2_) | with_reducible exact H | (rw [hy151]; exact H) | exact H
    have Ny151 := Aside0.mk hy151
    clear hy151
    obtain rfl := Option.some.inj H
    go_enter Try.func12, Try.ntmps12
    go_wp2_with (first | ((with_reducible refine gate_builtin (b := .append) (xs := #[.const (.slice none 0 0), .tmp 3]) rfl ?_); at_builtin; refine Kd.R_append_rows k43 (w0 := w) w.heap.size rfl (.const (.slice none 0 0)) (.tmp 3) 29 43 (.agg #[(.int .i64 0), (.string ⟨#[]⟩)]) 24 rfl Try.underlying29 info43 rfl (by decide) (by omega) (.slice none 0 0) ([] : List (S43)) l0 _ _ _ (fun _ => True) (fun _ => False) rfl rfl ?aO ?aR (fun _ _ h => h) (fun _ h => h.elim) ?aF ?aB ?aS ?aL ?_; (case aR => repeat (first | exact HR0.out | (with_reducible refine Kd.C_alloc ?_ _) | (with_reducible refine Kd.C_drewN ?_ _) | (with_reducible refine Kd.C_drew ?_))); (case aB => exact (by repeat (first | (with_reducible first | exact HB.out | apply below_alloc | apply pw_below_drewN | apply below_drew1) | exact HB.out))); (case aF => exact (fun _ _ => trivial)); (case aO => exact ((Kd.R_nil _ _ _ _ (fun _ => True)))); (case aS => exact (below_size (by repeat (first | (with_reducible first | exact HB.out | apply below_alloc | apply pw_below_drewN | apply below_drew1) | exact HB.out)))); (case aL => have := LMc2.out; omega); intro v152 w3 ho hb hg hat; rw [← Ny151.out] at ho; have n0_ := Aside0.mk (hb); have n1_ := Aside0.mk (ho); clear HB; have HB := n0_; have HO153 := n1_; clear n0_ n1_; clear ho hb hg hat))
    all_goals
      go_ret
      exact ⟨_, by first | rfl | (simp [errW_none, errW_some] <;> rfl) | (simp [*, errW_none, errW_some] <;> rfl), by (with_reducible repeat (first | apply Kd.R_alloc | apply Kd.R_drewN | apply Kd.R_drew)); exact HO153.out, by repeat (first | (with_reducible first | exact HB.out | apply below_alloc | apply pw_below_drewN | apply below_drew1) | exact HB.out)⟩
  · rw [if_neg c2] at H
    exact absurd H (by simp)
def carillonref08_Check.f (a0_0 : Int) (a0_1 : ByteArray) : Option (Bool) := if a0_0 ≥ 0 then (if a0_0 ≤ 65535 then (if ((a0_1.size : Int) % 2) = 0 then (some (decide ((a0_1.size : Int) ≤ 400))) else (some false)) else (some false)) else (some false)
set_option maxHeartbeats 8000000 in
set_option maxRecDepth 100000 in
theorem carillonref08_Check.calls (a0_0 : Int) (a0_1 : ByteArray) (r : Bool) (w : World) (h : carillonref08_Check.f a0_0 a0_1 = some r) :
    Calls Try.prog 46 #[.agg #[.int .i64 a0_0, .string a0_1]] w fun e w' => e = .returned (.bool r) ∧ Below w.heap.size w w' := by
  have hu43 := Try.underlying43
  have HB := Aside0.mk (Below.refl w.heap.size w)
  have H : (if a0_0 ≥ 0 then (if a0_0 ≤ 65535 then (if ((a0_1.size : Int) % 2) = 0 then (some (decide ((a0_1.size : Int) ≤ 400))) else (some false)) else (some false)) else (some false)) = some r := h
  clear h
  by_cases c2 : a0_0 ≥ 0
  · rw [if_pos c2] at H
    have c2b0 : decide (0 ≤ a0_0) = true := decide_eq_true c2
    clear c2
    by_cases c3 : a0_0 ≤ 65535
    · rw [if_pos c3] at H
      have c3b0 : decide (a0_0 ≤ 65535) = true := decide_eq_true c3
      clear c3
      by_cases c4 : ((a0_1.size : Int) % 2) = 0
      · rw [if_pos c4] at H
        have c4b0 : (((a0_1.size : Int) % 2) == 0) = true := beq_iff_eq.mpr c4
        have c4b1 : (((a0_1.size : Int) % 2) != 0) = false := bne_eq_false_iff_eq.mpr c4
        clear c4
        obtain rfl := Option.some.inj H
        go_enter Try.func46, Try.ntmps46
        go_wp2_with (first | ((with_reducible refine gate_dst (N := 1) rfl ?_); (try (refine gate_guard (by rfl) ?_; dsimp only)); refine box_event ?hg (N := 1) ?hd (cs := #[.int .i64 a0_0, .string a0_1]) (t := 43) ?hr ?_; (case hd => rfl); (case hg => rfl); (case hr => first | (go_simp; done) | (go_simp; rfl)); intro gb154 hg w5 hbox hb; have n0_ := Aside0.mk (below_step (by repeat (first | (with_reducible first | exact HB.out | apply below_alloc | apply pw_below_drewN | apply below_drew1) | exact HB.out)) hb); have n1_ := Aside0.mk (hbox); have n2_ := Aside0.mk ((by rw [hg]; exact (below_size (by repeat (first | (with_reducible first | exact HB.out | apply below_alloc | apply pw_below_drewN | apply below_drew1) | exact HB.out))) : w.heap.size ≤ gb154)); have n3_ := Aside0.mk ((by rw [hg]; exact (below_size (by repeat (first | (with_reducible first | exact HB.out | apply below_alloc | apply pw_below_drewN | apply below_drew1) | exact HB.out))) : w.heap.size ≤ gb154)); clear HB; have HB := n0_; have BK154 := n1_; have GW154 := n2_; have GE154 := n3_; clear n0_ n1_ n2_ n3_; clear hb hbox hg; have hcz6_0 : w5.cell? ⟨gb154, 0, none⟩ = some (.int .i64 a0_0) := (blk_cell BK154.out 0).trans rfl; have hcz6_1 : w5.cell? ⟨gb154, 1, none⟩ = some (.string a0_1) := (blk_cell BK154.out 1).trans rfl; have hfz6_0 := blk_frozen BK154.out 0; have hfz6_1 := blk_frozen BK154.out 1))
        all_goals
          go_ret
          exact ⟨by first | rfl | (simp [errW_none, errW_some] <;> rfl) | (simp [*, errW_none, errW_some] <;> rfl), by repeat (first | (with_reducible first | exact HB.out | apply below_alloc | apply pw_below_drewN | apply below_drew1 | refine below_set ?_ GE154.out) | exact HB.out)⟩
      · rw [if_neg c4] at H
        have c4b0 : (((a0_1.size : Int) % 2) == 0) = false := beq_eq_false_iff_ne.mpr c4
        have c4b1 : (((a0_1.size : Int) % 2) != 0) = true := bne_iff_ne.mpr c4
        obtain rfl := Option.some.inj H
        go_enter Try.func46, Try.ntmps46
        go_wp2_with (first | ((with_reducible refine gate_dst (N := 1) rfl ?_); (try (refine gate_guard (by rfl) ?_; dsimp only)); refine box_event ?hg (N := 1) ?hd (cs := #[.int .i64 a0_0, .string a0_1]) (t := 43) ?hr ?_; (case hd => rfl); (case hg => rfl); (case hr => first | (go_simp; done) | (go_simp; rfl)); intro gb154 hg w7 hbox hb; have n0_ := Aside0.mk (below_step (by repeat (first | (with_reducible first | exact HB.out | apply below_alloc | apply pw_below_drewN | apply below_drew1) | exact HB.out)) hb); have n1_ := Aside0.mk (hbox); have n2_ := Aside0.mk ((by rw [hg]; exact (below_size (by repeat (first | (with_reducible first | exact HB.out | apply below_alloc | apply pw_below_drewN | apply below_drew1) | exact HB.out))) : w.heap.size ≤ gb154)); have n3_ := Aside0.mk ((by rw [hg]; exact (below_size (by repeat (first | (with_reducible first | exact HB.out | apply below_alloc | apply pw_below_drewN | apply below_drew1) | exact HB.out))) : w.heap.size ≤ gb154)); clear HB; have HB := n0_; have BK154 := n1_; have GW154 := n2_; have GE154 := n3_; clear n0_ n1_ n2_ n3_; clear hb hbox hg; have hcz8_0 : w7.cell? ⟨gb154, 0, none⟩ = some (.int .i64 a0_0) := (blk_cell BK154.out 0).trans rfl; have hcz8_1 : w7.cell? ⟨gb154, 1, none⟩ = some (.string a0_1) := (blk_cell BK154.out 1).trans rfl; have hfz8_0 := blk_frozen BK154.out 0; have hfz8_1 := blk_frozen BK154.out 1))
        all_goals
          go_ret
          exact ⟨by first | rfl | (simp [errW_none, errW_some] <;> rfl) | (simp [*, errW_none, errW_some] <;> rfl), by repeat (first | (with_reducible first | exact HB.out | apply below_alloc | apply pw_below_drewN | apply below_drew1 | refine below_set ?_ GE154.out) | exact HB.out)⟩
    · rw [if_neg c3] at H
      have c3b0 : decide (a0_0 ≤ 65535) = false := decide_eq_false c3
      clear c3
      obtain rfl := Option.some.inj H
      go_enter Try.func46, Try.ntmps46
      go_wp2_with (first | ((with_reducible refine gate_dst (N := 1) rfl ?_); (try (refine gate_guard (by rfl) ?_; dsimp only)); refine box_event ?hg (N := 1) ?hd (cs := #[.int .i64 a0_0, .string a0_1]) (t := 43) ?hr ?_; (case hd => rfl); (case hg => rfl); (case hr => first | (go_simp; done) | (go_simp; rfl)); intro gb154 hg w9 hbox hb; have n0_ := Aside0.mk (below_step (by repeat (first | (with_reducible first | exact HB.out | apply below_alloc | apply pw_below_drewN | apply below_drew1) | exact HB.out)) hb); have n1_ := Aside0.mk (hbox); have n2_ := Aside0.mk ((by rw [hg]; exact (below_size (by repeat (first | (with_reducible first | exact HB.out | apply below_alloc | apply pw_below_drewN | apply below_drew1) | exact HB.out))) : w.heap.size ≤ gb154)); have n3_ := Aside0.mk ((by rw [hg]; exact (below_size (by repeat (first | (with_reducible first | exact HB.out | apply below_alloc | apply pw_below_drewN | apply below_drew1) | exact HB.out))) : w.heap.size ≤ gb154)); clear HB; have HB := n0_; have BK154 := n1_; have GW154 := n2_; have GE154 := n3_; clear n0_ n1_ n2_ n3_; clear hb hbox hg; have hcz10_0 : w9.cell? ⟨gb154, 0, none⟩ = some (.int .i64 a0_0) := (blk_cell BK154.out 0).trans rfl; have hcz10_1 : w9.cell? ⟨gb154, 1, none⟩ = some (.string a0_1) := (blk_cell BK154.out 1).trans rfl; have hfz10_0 := blk_frozen BK154.out 0; have hfz10_1 := blk_frozen BK154.out 1))
      all_goals
        go_ret
        exact ⟨by first | rfl | (simp [errW_none, errW_some] <;> rfl) | (simp [*, errW_none, errW_some] <;> rfl), by repeat (first | (with_reducible first | exact HB.out | apply below_alloc | apply pw_below_drewN | apply below_drew1 | refine below_set ?_ GE154.out) | exact HB.out)⟩
  · rw [if_neg c2] at H
    have c2b0 : decide (0 ≤ a0_0) = false := decide_eq_false c2
    clear c2
    obtain rfl := Option.some.inj H
    go_enter Try.func46, Try.ntmps46
    go_wp2_with (first | ((with_reducible refine gate_dst (N := 1) rfl ?_); (try (refine gate_guard (by rfl) ?_; dsimp only)); refine box_event ?hg (N := 1) ?hd (cs := #[.int .i64 a0_0, .string a0_1]) (t := 43) ?hr ?_; (case hd => rfl); (case hg => rfl); (case hr => first | (go_simp; done) | (go_simp; rfl)); intro gb154 hg w11 hbox hb; have n0_ := Aside0.mk (below_step (by repeat (first | (with_reducible first | exact HB.out | apply below_alloc | apply pw_below_drewN | apply below_drew1) | exact HB.out)) hb); have n1_ := Aside0.mk (hbox); have n2_ := Aside0.mk ((by rw [hg]; exact (below_size (by repeat (first | (with_reducible first | exact HB.out | apply below_alloc | apply pw_below_drewN | apply below_drew1) | exact HB.out))) : w.heap.size ≤ gb154)); have n3_ := Aside0.mk ((by rw [hg]; exact (below_size (by repeat (first | (with_reducible first | exact HB.out | apply below_alloc | apply pw_below_drewN | apply below_drew1) | exact HB.out))) : w.heap.size ≤ gb154)); clear HB; have HB := n0_; have BK154 := n1_; have GW154 := n2_; have GE154 := n3_; clear n0_ n1_ n2_ n3_; clear hb hbox hg; have hcz12_0 : w11.cell? ⟨gb154, 0, none⟩ = some (.int .i64 a0_0) := (blk_cell BK154.out 0).trans rfl; have hcz12_1 : w11.cell? ⟨gb154, 1, none⟩ = some (.string a0_1) := (blk_cell BK154.out 1).trans rfl; have hfz12_0 := blk_frozen BK154.out 0; have hfz12_1 := blk_frozen BK154.out 1))
    all_goals
      go_ret
      exact ⟨by first | rfl | (simp [errW_none, errW_some] <;> rfl) | (simp [*, errW_none, errW_some] <;> rfl), by repeat (first | (with_reducible first | exact HB.out | apply below_alloc | apply pw_below_drewN | apply below_drew1 | refine below_set ?_ GE154.out) | exact HB.out)⟩
def carillonref01_Put.l0 : Nat → List Int → Int → Int → Option (List Int)
  | 0, _, _, _ => none
  | k + 1, x5, x6, x7 => if x7 ≥ 0 then (if 0 ≤ x7 then (if x7 < (x5.length : Int) then (carillonref01_Put.l0 k (x5.set (x7 : Int).toNat ((Int.tmod x6 256) % 256)) (IntKind.u64.wrap (Int.tdiv x6 256)) (wrap64 (x7 - 1))) else (none)) else (none)) else (some x5)
def carillonref01_Put.f (k : Nat) (a0 : Int) (a1 : Int) : Option (List Int) := if 0 ≤ (mn (mx a1 0) 8) then (if (mn (mx a1 0) 8 : Int).toNat ≤ 281474976710656 then (carillonref01_Put.l0 k (List.replicate (mn (mx a1 0) 8 : Int).toNat 0) (IntKind.u64.wrap (a0)) ((mn (mx a1 0) 8) - 1)) else (none)) else (none)
set_option maxHeartbeats 8000000 in
set_option maxRecDepth 100000 in
theorem carillonref01_Put.calls (k : Nat) (a0 : Int) (a1 : Int) (r : List Int) (w : World) (h : carillonref01_Put.f k a0 a1 = some r) :
    Calls Try.prog 47 #[.int .i64 a0, .int .i64 a1] w fun e w' => ∃ v0_ : Value, e = .returned (v0_) ∧ Kd.R (Kd.int .u8) 5 w' w.heap.size (fun _ => True) v0_ r ∧ Below w.heap.size w w' := by
  have HB := Aside0.mk (Below.refl w.heap.size w)
  have H : (if 0 ≤ (mn (mx a1 0) 8) then (if (mn (mx a1 0) 8 : Int).toNat ≤ 281474976710656 then (carillonref01_Put.l0 k (List.replicate (mn (mx a1 0) 8 : Int).toNat 0) (IntKind.u64.wrap (a0)) ((mn (mx a1 0) 8) - 1)) else (none)) else (none)) = some r := h
  clear h
  obtain ⟨ji3, hji3⟩ : ∃ j_ : Int, (mx a1 0) = j_ := ⟨_, rfl⟩
  replace H : (if 0 ≤ (mn (ji3) 8) then (if (mn (ji3) 8 : Int).toNat ≤ 281474976710656 then (carillonref01_Put.l0 k (List.replicate (mn (ji3) 8 : Int).toNat 0) (IntKind.u64.wrap (a0)) ((mn (ji3) 8) - 1)) else (none)) else (none)) = some r := by first | (rw [hji3] at H; exact H) | (simp only [hji3] at H ⊢; exact H)
  (try (have hji3l : 0 ≤ ji3 := by (rw [← hji3]; unfold mx; (repeat' split) <;> omega)))
  (try (have hji3m : 0 ≤ ji3 := by omega))
  have hji3_ : (if a1 < 0 then 0 else a1) = ji3 := hji3
  obtain ⟨ji4, hji4⟩ : ∃ j_ : Int, (mn (ji3) 8) = j_ := ⟨_, rfl⟩
  replace H : (if 0 ≤ (ji4) then (if (ji4 : Int).toNat ≤ 281474976710656 then (carillonref01_Put.l0 k (List.replicate (ji4 : Int).toNat 0) (IntKind.u64.wrap (a0)) ((ji4) - 1)) else (none)) else (none)) = some r := by first | (rw [hji4] at H; exact H) | (simp only [hji4] at H ⊢; exact H)
  have hji4_ : (if 8 < (ji3) then 8 else (ji3)) = ji4 := hji4
  by_cases c5 : 0 ≤ (ji4)
  · rw [if_pos c5] at H
    have c5b0 := eq_true c5
    have c5b1 : decide (0 ≤ (ji4)) = true := decide_eq_true c5
    clear c5
    by_cases c6 : (ji4 : Int).toNat ≤ 281474976710656
    · rw [if_pos c6] at H
      have c6b0 := eq_true c6
      have c6b1 : decide ((ji4 : Int).toNat ≤ 281474976710656) = true := decide_eq_true c6
      clear c6
      obtain ⟨y155, hy155⟩ : ∃ y_ : List Int, y_ = (List.replicate (ji4 : Int).toNat 0) := ⟨_, rfl⟩
      replace H : (carillonref01_Put.l0 k y155 (IntKind.u64.wrap (a0)) ((ji4) - 1)) = some r := by first | (rw [hy155]; with_reducible exact H) | (have H2_ := (Option.bind_some _ _).symm.trans H; rw [hy155]; with_reducible exact H2_) | (have H2_ := (Option.bind_some _ _).symm.trans H; with_reducible exact H2_) | with_reducible exact H | (rw [hy155]; exact H) | exact H
      have Ny155 := Aside0.mk hy155
      clear hy155
      have H' := Aside0.mk H
      clear H
      go_enter Try.func47, Try.ntmps47
      go_wp2_with (first | ((with_reducible refine gate_dst (N := 12) rfl ?_); refine Kd.R_make (Kd.int .u8) _ 5 rfl (N := 12) rfl 36 _ _ rfl ji4 rfl rfl Try.underlying36 (.int .u8 0) 1 info5 rfl (by decide) (by omega) 0 (ok := fun _ => True) (okp := fun _ => True) rfl (fun _ hk => hk) trivial (of_decide_eq_true (by first | (with_reducible assumption) | assumption)) (Nat.le_trans (Nat.mul_le_mul_right _ (of_decide_eq_true (by first | (with_reducible assumption) | assumption) : ji4.toNat ≤ 281474976710656)) (by omega)) (Below.refl _ _) (Nat.le_refl _) ?_; intro v156 w7 ho8 hb hg_ hnew_; clear hg_ hnew_; (first | rw [← Ny155.out] at ho8 | (simp only [Int.reduceToNat] at ho8; rw [← Ny155.out] at ho8)); have n0_ := Aside0.mk (Kd.R_lower ho8 (below_size (by repeat (first | (with_reducible first | exact HB.out | apply below_alloc | apply pw_below_drewN | apply below_drew1) | exact HB.out)))); have n1_ := Aside0.mk (below_step (by repeat (first | (with_reducible first | exact HB.out | apply below_alloc | apply pw_below_drewN | apply below_drew1) | exact HB.out)) hb); clear HB; have HO157 := n0_; have HB := n1_; clear n0_ n1_; clear hb ho8))
      go_loopg [6, 7] k (fun kq v6 v7 w' => ∃ (x5_1 : List Int) (x6_1 : Int) (x7_1 : Int), v6 = .int .u64 x6_1 ∧ v7 = .int .i64 x7_1 ∧ Aside0 (carillonref01_Put.l0 kq x5_1 x6_1 x7_1 = some r) ∧ Aside0 (kq ≤ k) ∧ Aside0 (Kd.R (Kd.int .u8) 5 w' w.heap.size (fun _ => True) v156 x5_1) ∧ Aside0 (Below w.heap.size w w'))
      case atStart => exact ⟨(y155), (IntKind.u64.wrap (a0)), ((ji4) - 1), (by first | rfl | (simp; done) | (simp [*]; done)), (by first | rfl | (simp; done) | (simp only [← hji4] <;> (first | rfl | simp)) | (simp [*]; done)), H', ⟨Nat.le_refl _⟩, ⟨by (with_reducible repeat (first | apply Kd.R_alloc | apply Kd.R_drewN | apply Kd.R_drew)); exact HO157.out⟩, ⟨by repeat (first | (with_reducible first | exact HB.out | apply below_alloc | apply pw_below_drewN | apply below_drew1) | exact HB.out)⟩⟩
      case round =>
        clear H'
        try clear p2
        try clear c4
        try clear c5
        try clear c5b0
        try clear c5b1
        try clear c6
        try clear c6b0
        try clear c6b1
        obtain ⟨x5_1, x6_1, x7_1, rfl, rfl, HA, HK1, HO_5, HB⟩ := hrel
        cases gk with
        | zero => exact absurd HA.out (by simp [carillonref01_Put.l0])
        | succ k1 =>
          have H := HA.out
          clear HA
          simp only [carillonref01_Put.l0] at H
          by_cases c9 : x7_1 ≥ 0
          · rw [if_pos c9] at H
            have c9b0 : decide (0 ≤ x7_1) = true := decide_eq_true c9
            clear c9
            by_cases c10 : 0 ≤ x7_1
            · rw [if_pos c10] at H
              have c10b0 : decide (0 ≤ x7_1) = true := decide_eq_true c10
              clear c10
              by_cases c11 : x7_1 < (x5_1.length : Int)
              · rw [if_pos c11] at H
                have c11b0 : decide (x7_1 < (x5_1.length : Int)) = true := decide_eq_true c11
                clear c11
                obtain ⟨y158, hy158⟩ : ∃ y_ : List Int, y_ = (x5_1.set (x7_1 : Int).toNat ((Int.tmod x6_1 256) % 256)) := ⟨_, rfl⟩
                replace H : (carillonref01_Put.l0 k1 y158 (IntKind.u64.wrap (Int.tdiv x6_1 256)) (wrap64 (x7_1 - 1))) = some r := by first | (rw [hy158]; with_reducible exact H) | (have H2_ := (Option.bind_some _ _).symm.trans H; rw [hy158]; with_reducible exact H2_) | (have H2_ := (Option.bind_some _ _).symm.trans H; with_reducible exact H2_) | with_reducible exact H | (rw [hy158]; exact H) | exact H
                have Ny158 := Aside0.mk hy158
                clear hy158
                have H' := Aside0.mk H
                clear H
                have p12 : 0 ≤ (x7_1 : Int) := of_decide_eq_true (by first | (with_reducible assumption) | assumption)
                have q12 : (x7_1 : Int) < ((x5_1.length : Int) : Int) := of_decide_eq_true (by first | (with_reducible assumption) | assumption)
                obtain ⟨go12, co12, eo12, gb12, gl12, cl12, HG12⟩ := Kd.R_form HO_5.out (by omega)
                (first | cases eo12 | (injection eo12 with ea_ en_ ec_; (first | subst ea_ | (injection ea_ with ea_; subst ea_)); subst ec_; clear en_))
                have GB12 := Aside0.mk gb12
                have GG12 := Aside0.mk HG12
                clear gb12 gl12 HG12
                obtain ⟨hx12_0, hf12_0⟩ := Kd.R_celln 0 HO_5.out (x7_1 : Int) p12 q12
                replace p12 := eq_true p12
                replace q12 := eq_true q12
                have HP13 := Kd.R_putg HO_5.out (x7_1 : Int) ((Int.tmod x6_1 256) % 256)
                go_wp2_with (first | ((with_reducible refine gate_store (t := 5) (p := 26) rfl ?_); refine store_event (t := 5) (p := 26) (v := ?vo_w14) (w1 := (wr.setCell ⟨go12, (x7_1 : Int).toNat, none⟩ (.int .u8 ((Int.tmod x6_1 256) % 256)))) ?hg ?ho ?hn ?hr ?_; (case ho => rfl); (case hg => rfl); (case hn => rfl); (case hr => first | (go_simp; done) | (go_simp; rfl)); intro w14 hw; have hg : wr.grownBy w14 (some go12) := (by rw [hw]; exact HP13.2); have hp_ : Kd.R (Kd.int .u8) 5 w14 w.heap.size (fun _ => True) (.slice (some ⟨go12, 0, none⟩) x5_1.length co12) y158 := (by rw [hw, Ny158.out]; exact HP13.1); clear HP13; have n0_ := Aside0.mk (hp_); have n1_ := Aside0.mk ((by rw [hw]; exact below_set (HB.out) GB12.out : Below w.heap.size w w14)); clear HO_5; clear HB; have HO_5 := n0_; have HB := n1_; clear n0_ n1_; clear hg hw hp_))
                go_roundg k1
                case measure => have := HK1.out; omega
                case rel => exact ⟨(y158), (IntKind.u64.wrap (Int.tdiv x6_1 256)), (wrap64 (x7_1 - 1)), (by first | rfl | (simp; done) | (simp [*]; done)), (by first | rfl | (simp; done) | (simp [*]; done)), H', ⟨by have := HK1.out; omega⟩, ⟨by (with_reducible repeat (first | apply Kd.R_alloc | apply Kd.R_drewN | apply Kd.R_drew)); exact HO_5.out⟩, ⟨by repeat (first | (with_reducible first | exact HB.out | apply below_alloc | apply pw_below_drewN | apply below_drew1) | exact HB.out)⟩⟩
              · rw [if_neg c11] at H
                exact absurd H (by simp)
            · rw [if_neg c10] at H
              exact absurd H (by simp)
          · rw [if_neg c9] at H
            have c9b0 : decide (0 ≤ x7_1) = false := decide_eq_false c9
            clear c9
            obtain rfl := Option.some.inj H
            go_wp2
            all_goals
              go_ret
              exact ⟨_, by first | rfl | (simp [errW_none, errW_some] <;> rfl) | (simp only [← hji3, ← hji4]; first | rfl | (simp [errW_none, errW_some] <;> rfl)) | (simp [*, errW_none, errW_some] <;> rfl), by (with_reducible repeat (first | apply Kd.R_alloc | apply Kd.R_drewN | apply Kd.R_drew)); exact HO_5.out, by repeat (first | (with_reducible first | exact HB.out | apply below_alloc | apply pw_below_drewN | apply below_drew1) | exact HB.out)⟩
    · rw [if_neg c6] at H
      exact absurd H (by simp)
  · rw [if_neg c5] at H
    exact absurd H (by simp)
def carillonref08_Put.l1 (k : Nat) : Nat → (List (S43)) → (List Int) → Int → Option (List Int × Bool)
  | 0, _, _, _ => none
  | n1 + 1, y1_0, y1_4, x1_5 => if x1_5 < (y1_0.length : Int) then (if 0 ≤ x1_5 then ((carillonref08_Check.f ((rd_T43 y1_0 x1_5).f0) ((rd_T43 y1_0 x1_5).f1)).bind fun t1008 => (if t1008 = true then ((carillonref01_Put.f k ((rd_T43 y1_0 x1_5).f0) 2).bind fun t1016 => (if (y1_4.length + t1016.length) * 1 ≤ 140737488355328 then ((carillonref01_Put.f k (((rd_T43 y1_0 x1_5).f1).size : Int) 2).bind fun t1023 => (if ((y1_4 ++ t1016 : List Int).length + t1023.length) * 1 ≤ 140737488355328 then (if ((y1_4 ++ t1016 : List Int) ++ t1023 : List Int).length + ((rd_T43 y1_0 x1_5).f1).size ≤ 140737488355328 then (carillonref08_Put.l1 k n1 y1_0 (((y1_4 ++ t1016 : List Int) ++ t1023 : List Int) ++ bytesOf ((rd_T43 y1_0 x1_5).f1) : List Int) (wrap64 (x1_5 + 1))) else (none)) else (none))) else (none))) else (some ([], false)))) else (none)) else (some (y1_4, true))
def carillonref08_Put.f (k : Nat) (l0 : List (S43)) : Option (List Int × Bool) := if (l0.length : Int) > 8 then (some ([], false)) else (carillonref08_Put.l1 k k l0 [] 0)
open Go.Proofs.Ytiomlbkakiienaa.E in
theorem carillonref08_Put.flat43 : Flat k43 (fun x => [.int .i64 x.f0, .string x.f1]) := ⟨fun w x cs h => k43_open h, fun w base x => k43_mkM w base _ x⟩
open Go.Proofs.Ytiomlbkakiienaa.E in
set_option maxHeartbeats 60000000 in
set_option maxRecDepth 100000 in
theorem carillonref08_Put.calls (k : Nat) (A0 : Option Addr) (a7 : Nat) (l0 : List (S43)) (r1 : List Int) (r2 : Bool) (w : World) (HR0 : Kd.C k43 w A0 l0.length l0) (HC0 : l0.length ≤ a7) (h : carillonref08_Put.f k l0 = some (r1, r2)) :
    Calls Try.prog 23 #[.slice A0 l0.length a7] w fun e w' => ∃ v0_ : Value, e = .returned (.tuple #[v0_, .bool r2]) ∧ Kd.R (Kd.int .u8) 5 w' w.heap.size (fun _ => True) v0_ r1 ∧ Below w.heap.size w w' := by
 have H := h
 clear h
 unfold carillonref08_Put.f at H
 refine calls_of_wp (fn := Try.f23) (by kernel_rfl) rfl ?_
 have hS := St.enter #[.slice A0 l0.length a7] 45 (by simp) [(0, .slice A0 l0.length a7)] (by simp)
 have bO := Below.refl w.heap.size w
 refine wp_seq_k (fun K1 b7 => ?_)
 refine reg_seq (I := I1_ w) (ps := [IsV (.slice none 0 0), VB false]) (by kernel_rfl) ?_ ?_ rfl hS bO ?_ ?_
 ·exact bs1
 ·exact .v (.v (.nil))
 ·refine .on rfl (fun a w hS hI hp => does_val (x_assign rfl (rfl)) rfl) ?_
  refine .on rfl (fun a w hS hI hp => does_val (x_assign rfl (rfl)) rfl) ?_
  exact .nil
 clear hS
 intro cD w3 hS cj hp
 clear hp
 refine b7 _ _ ?_
 refine wp_seq_k (fun K4 b8 => ?_)
 refine wp_seq_k (fun K5 b9 => ?_)
 refine reg_seq (I := I2_ w w3) (ps := [IsV (.slice A0 l0.length a7), VI (l0.length : Int), VB (decide ((l0.length : Int) > 8))]) (by kernel_rfl) ?_ ?_ rfl hS ⟨cj, (bR w3)⟩ ?_ ?_
 ·exact bs2
 ·exact .v (.v (.v (.nil)))
 ·refine .ms 0 rfl rfl rfl ?_
  refine .on rfl (fun a w hS hI hp => does_val (x_len (e := 43) rfl (by kernel_rfl) (hp.V 0 rfl rfl)) rfl) ?_
  refine .on rfl (fun a w hS hI hp => does_val (x_bin rfl (hp.V 1 rfl rfl) (rfl) (b_gtr _ _ _ _ _ _)) rfl) ?_
  exact .nil
 clear hS
 intro cE w7 hS bK hp
 have bJ : sl _ 8 = .bool (decide ((l0.length : Int) > 8)) := hp 2 (by decide)
 have hS := hS.cons bJ
 clear hp bJ
 refine b9 _ _ ?_
 by_cases c1 : (l0.length : Int) > 8
 ·rw [if_pos c1] at H
  simp only [Option.some.injEq, Prod.mk.injEq] at H
  obtain ⟨rfl, rfl⟩ := H
  refine wp_cond_true ((hS.get 0 rfl).trans (bT (decide_eq_true c1))) ?_
  refine wp_seq_k (fun K8 bc => ?_)
  refine reg_seq (I := I2_ w w7) (ps := [IsV (.slice none 0 0), VB false]) (by kernel_rfl) ?_ ?_ rfl hS ⟨bK.1, (bR w7)⟩ ?_ ?_
  ·exact bs2
  ·exact .v (.v (.nil))
  ·refine .on rfl (fun a w hS hI hp => does_val (x_assign rfl (rfl)) rfl) ?_
   refine .on rfl (fun a w hS hI hp => does_val (x_assign rfl (rfl)) rfl) ?_
   exact .nil
  clear hS
  intro b6 bs hS aW hp
  replace hS := hS.nil
  have aB : sl _ 2 = .slice none 0 0 := hp 0 (by decide)
  have aC : sl _ 3 = .bool false := hp 1 (by decide)
  have hS := hS.cons aB
  have hS := hS.cons aC
  clear hp aB aC
  refine bc _ _ ?_
  refine wp_ret ?_
  (try simp only [Exit.then, Exit.inBlock, Exit.jump, Exit.noGoto])
  exact bodyPost_ret (v := .tuple #[.slice none 0 0, .bool false]) (results_list (rs := [.tmp 2, .tmp 3]) rfl (by simp) (Vals.at (hS.get 1 rfl) (Vals.at (hS.get 0 rfl) .nil))) hS.nodef ⟨.slice none 0 0, rfl, Kd.R_nil _ _ _ _ _, aW.1⟩
 rw [if_neg c1] at H
 refine wp_cond_false ((hS.get 0 rfl).trans (bF (decide_eq_false c1))) ?_
 refine wp_skip ?_
 refine b8 _ _ ?_
 refine wp_seq_k (fun K8 bc => ?_)
 refine reg_seq (I := I2_ w w7) (ps := [IsV (.slice none 0 0)]) (by kernel_rfl) ?_ ?_ rfl hS ⟨bK.1, (bR w7)⟩ ?_ ?_
 ·exact bs2
 ·exact .v (.nil)
 ·refine .on rfl (fun a w hS hI hp => does_val (x_assign rfl (rfl)) rfl) ?_
  exact .nil
 clear hS
 intro b6 bs hS aW hp
 replace hS := (hS.nil).cons (hS.get 1 rfl)
 have bH : sl _ 4 = .slice none 0 0 := hp 0 (by decide)
 have hS := hS.cons bH
 clear hp bH
 refine bc _ _ ?_
 refine wp_seq_k (fun cA bL => ?_)
 refine wp_seq_k (fun cB bM => ?_)
 refine reg_seq (I := I2_ w bs) (ps := [VI 0]) (by kernel_rfl) ?_ ?_ rfl hS ⟨aW.1, (bR bs)⟩ ?_ ?_
 ·exact bs2
 ·exact .v (.nil)
 ·refine .on rfl (fun a w hS hI hp => does_val (x_assign rfl (rfl)) rfl) ?_
  exact .nil
 clear hS
 intro cz cF hS bN hp
 have bI : sl _ 5 = .int .i64 0 := hp 0 (by decide)
 have hS := hS.cons bI
 clear hp bI
 refine bM _ _ ?_
 refine wp_block ?_
 replace hS := (((hS.nil).cons (hS.get 0 rfl)).cons (hS.get 1 rfl)).cons (hS.get 2 rfl)
 refine wp_loop_ghost (fun n_ a_ av => ∃ (ab : List (S43)) (ah : Option Addr) (aj : Nat) (ac : List Int) (ai : Option Addr) (ag : Nat) (aa : Int), carillonref08_Put.l1 k n_ ab ac aa = some (r1, r2) ∧ St 45 [(0, .slice ah ab.length aj), (4, .slice ai ac.length ag), (5, .int .i64 aa)] a_ ∧ Below w.heap.size w av ∧ ab.length ≤ aj ∧ Kd.C k43 w ah ab.length ab ∧ ac.length ≤ ag ∧ Kd.R (Kd.int .u8) 5 av w.heap.size (fun _ => True) (.slice ai ac.length ag) ac) k ⟨l0, A0, a7, [], none, 0, 0, H, hS, bN.1, HC0, (HR0), (Nat.le_refl _), (Kd.R_nil _ _ _ _ _)⟩ ?_
 clear H hS
 rintro n1 cC av ⟨ab, ah, aj, ac, ai, ag, aa, H, hS, a1, bC, af, cu, aR⟩
 rcases n1 with _ | n1
 ·exact absurd H (by simp [carillonref08_Put.l1])
 rw [carillonref08_Put.l1] at H
 (try dsimp only at H)
 refine wp_seq_k (fun cp a8 => ?_)
 refine wp_seq_k (fun cq a9 => ?_)
 refine reg_seq (I := I2_ w av) (ps := [VI aa, IsV (.slice ah ab.length aj), VI (ab.length : Int), VB (decide (aa < (ab.length : Int)))]) (by kernel_rfl) ?_ ?_ rfl hS ⟨a1, (bR av)⟩ ?_ ?_
 ·exact bs2
 ·exact .v (.v (.v (.v (.nil))))
 ·refine .ms 2 rfl rfl rfl ?_
  refine .ms 0 rfl rfl rfl ?_
  refine .on rfl (fun a w hS hI hp => does_val (x_len (e := 43) rfl (by kernel_rfl) (hp.V 1 rfl rfl)) rfl) ?_
  refine .on rfl (fun a w hS hI hp => does_val (x_bin rfl (hp.V 0 rfl rfl) (hp.V 2 rfl rfl) (b_lss _ _ _ _ _ _)) rfl) ?_
  exact .nil
 clear hS
 intro bP aH hS ar hp
 have bj : sl _ 12 = .bool (decide (aa < (ab.length : Int))) := hp 3 (by decide)
 have hS := hS.cons bj
 clear hp bj
 refine a9 _ _ ?_
 by_cases c2 : aa < (ab.length : Int)
 rotate_left
 ·rw [if_neg c2] at H
  simp only [Option.some.injEq, Prod.mk.injEq] at H
  obtain ⟨rfl, rfl⟩ := H
  refine wp_cond_false ((hS.get 0 rfl).trans (bF (decide_eq_false c2))) ?_
  refine wp_exit ?_
  (try simp only [Exit.then, Exit.inBlock, reduceIte])
  refine bL _ _ ?_
  refine wp_seq_k (fun bA aJ => ?_)
  refine reg_seq (I := I3_ w av aH) (ps := [IsV (.slice ai ac.length ag), IsV (.slice ai ac.length ag), VB true]) (by kernel_rfl) ?_ ?_ rfl hS ⟨ar.1, ar.2, (bR aH)⟩ ?_ ?_
  ·exact bs3
  ·exact .v (.v (.v (.nil)))
  ·refine .ms 2 rfl rfl rfl ?_
   refine .asg 0 rfl rfl rfl ?_
   refine .on rfl (fun a w hS hI hp => does_val (x_assign rfl (rfl)) rfl) ?_
   exact .nil
  clear hS
  intro bQ cv hS aS hp
  replace hS := hS.nil
  have aB : sl _ 2 = .slice ai ac.length ag := hp 1 (by decide)
  have aC : sl _ 3 = .bool true := hp 2 (by decide)
  have hS := hS.cons aB
  have hS := hS.cons aC
  clear hp aB aC
  refine aJ _ _ ?_
  refine wp_ret ?_
  (try simp only [Exit.then, Exit.inBlock, Exit.jump, Exit.noGoto])
  exact bodyPost_ret (v := .tuple #[.slice ai ac.length ag, .bool true]) (results_list (rs := [.tmp 2, .tmp 3]) rfl (by simp) (Vals.at (hS.get 1 rfl) (Vals.at (hS.get 0 rfl) .nil))) hS.nodef ⟨.slice ai ac.length ag, rfl, Kd.R_lower (Kd.R_below aR aS.2.1) (Nat.le_refl _), aS.1⟩
 rw [if_pos c2] at H
 by_cases c3 : 0 ≤ aa
 rotate_left
 ·rw [if_neg c3] at H
  exact absurd H (by simp)
 rw [if_pos c3] at H
 obtain ⟨au, a4, H⟩ := Option.bind_eq_some_iff.mp H
 refine wp_cond_true ((hS.get 0 rfl).trans (bT (decide_eq_true c2))) ?_
 refine wp_skip ?_
 refine a8 _ _ ?_
 refine wp_seq_k (fun bA aJ => ?_)
 refine wp_block ?_
 refine wp_seq_k (fun cr ba => ?_)
 refine wp_seq_k (fun ct bb => ?_)
 refine reg_seq (I := I3_ w av aH) (ps := [IsV (.slice ah ab.length aj), VI aa, IsAT [.int .i64 ((rd_T43 ab aa).f0), .string ((rd_T43 ab aa).f1)], IsV (.agg #[.int .i64 ((rd_T43 ab aa).f0), .string ((rd_T43 ab aa).f1)]), VB au, VB (!au)]) (by kernel_rfl) ?_ ?_ rfl hS ⟨ar.1, ar.2, (bR aH)⟩ ?_ ?_
 ·exact bs3
 ·exact .v (.v (.cons (Stays.at_ _) (.v (.v (.v (.nil))))))
 ·refine .ms 1 rfl rfl rfl ?_
  refine .ms 3 rfl rfl rfl ?_
  refine .on rfl (fun a w hS hI hp => does_indexT carillonref08_Put.flat43 (e := 43) (xs := ab) (i := aa) z43 rfl (hp.V 0 rfl rfl) (hp.V 1 rfl rfl) (by kernel_rfl) (by kernel_rfl) c3 c2 c2 (by decide) ((Kd.C_below af hI.1))) ?_
  refine .on rfl (fun a w hS hI hp => does_loadT (cs := [.int .i64 ((rd_T43 ab aa).f0), .string ((rd_T43 ab aa).f1)]) rfl (hp.V 2 rfl rfl) Try.underlying43 rfl (by kernel_rfl)) ?_
  refine .on rfl (fun a w hS hI hp => does_call (by kernel_rfl) (ar1 (hp.V 3 rfl rfl)) ((carillonref08_Check.calls ((rd_T43 ab aa).f0) ((rd_T43 ab aa).f1) au _  a4).mono fun _ _ h => ⟨_, h.1, h.2, rfl⟩)) ?_
  refine .on rfl (fun a w hS hI hp => does_val (x_not rfl (hp.V 4 rfl rfl)) rfl) ?_
  exact .nil
 clear hS
 intro bS aI hS al hp
 replace hS := (((hS.nil).cons (hS.get 3 rfl)).cons (hS.get 2 rfl)).cons (hS.get 1 rfl)
 have bl : sl _ 20 = .bool (!au) := hp 5 (by decide)
 have hS := hS.cons bl
 clear hp bl
 refine bb _ _ ?_
 by_cases c4 : au = true
 rotate_left
 ·rw [if_neg c4] at H
  simp only [Option.some.injEq, Prod.mk.injEq] at H
  obtain ⟨rfl, rfl⟩ := H
  refine wp_cond_true ((hS.get 0 rfl).trans (bT (congrArg (!·) (Bool.eq_false_iff.2 c4)))) ?_
  refine wp_seq_k (fun bB aK => ?_)
  refine reg_seq (I := I3_ w av aI) (ps := [IsV (.slice none 0 0), VB false]) (by kernel_rfl) ?_ ?_ rfl hS ⟨al.1, al.2.1, (bR aI)⟩ ?_ ?_
  ·exact bs3
  ·exact .v (.v (.nil))
  ·refine .on rfl (fun a w hS hI hp => does_val (x_assign rfl (rfl)) rfl) ?_
   refine .on rfl (fun a w hS hI hp => does_val (x_assign rfl (rfl)) rfl) ?_
   exact .nil
  clear hS
  intro bU cw hS bo hp
  replace hS := hS.nil
  have aB : sl _ 2 = .slice none 0 0 := hp 0 (by decide)
  have aC : sl _ 3 = .bool false := hp 1 (by decide)
  have hS := hS.cons aB
  have hS := hS.cons aC
  clear hp aB aC
  refine aK _ _ ?_
  refine wp_ret ?_
  (try simp only [Exit.then, Exit.inBlock, Exit.jump, Exit.noGoto])
  exact bodyPost_ret (v := .tuple #[.slice none 0 0, .bool false]) (results_list (rs := [.tmp 2, .tmp 3]) rfl (by simp) (Vals.at (hS.get 1 rfl) (Vals.at (hS.get 0 rfl) .nil))) hS.nodef ⟨.slice none 0 0, rfl, Kd.R_nil _ _ _ _ _, bo.1⟩
 rw [if_pos c4] at H
 obtain ⟨ad, a5, H⟩ := Option.bind_eq_some_iff.mp H
 by_cases c5 : (ac.length + ad.length) * 1 ≤ 140737488355328
 rotate_left
 ·rw [if_neg c5] at H
  exact absurd H (by simp)
 rw [if_pos c5] at H
 obtain ⟨ae, a6, H⟩ := Option.bind_eq_some_iff.mp H
 by_cases c6 : ((ac ++ ad : List Int).length + ae.length) * 1 ≤ 140737488355328
 rotate_left
 ·rw [if_neg c6] at H
  exact absurd H (by simp)
 rw [if_pos c6] at H
 by_cases c7 : ((ac ++ ad : List Int) ++ ae : List Int).length + ((rd_T43 ab aa).f1).size ≤ 140737488355328
 rotate_left
 ·rw [if_neg c7] at H
  exact absurd H (by simp)
 rw [if_pos c7] at H
 refine wp_cond_false ((hS.get 0 rfl).trans (bF (congrArg (!·) c4))) ?_
 refine wp_skip ?_
 refine ba _ _ ?_
 refine wp_seq_k (fun bB aK => ?_)
 obtain ⟨aq, ak⟩ := row_some z43 (Kd.C_below af al.1) c3 c2
 refine reg_float (I := I3_ w av aI) (C := fun x => Kd.C k43 x ah ab.length ab) [true, true, true, true, true, true, false, false, true, true, true, true, true, true, false, false, false] [.slice ai ac.length ag, .slice ah ab.length aj, .int .i64 aa, .pointer (some (aq.add ((aa : Int).toNat * 2))), .pointer (some ((aq.add ((aa : Int).toNat * 2)).add 0)), .int .i64 ((rd_T43 ab aa).f0), undef, undef, .slice ah ab.length aj, .int .i64 aa, .pointer (some (aq.add ((aa : Int).toNat * 2))), .pointer (some ((aq.add ((aa : Int).toNat * 2)).add 1)), .string ((rd_T43 ab aa).f1), .int .i64 (((rd_T43 ab aa).f1).size : Int), undef, undef, undef] [0, 0, 0, 6, 14, 30, 62, 127, 0, 0, 768, 1792, 3840, 7936, 16383, 32767, 65535] (by kernel_rfl) (by kernel_rfl) rfl ?_ ?_ hS ⟨al.1, al.2.1, (bR aI)⟩ ?_ ?_
 ·exact bs3
 ·exact fun x hI => (Kd.C_below af hI.1)
 ·intro a hS hp
  refine .g (fun w hC => GRun.on rfl (x_move rfl (hS.get 2 rfl))) ?_
  refine .g (fun w hC => GRun.on rfl (x_move rfl (hS.get 1 rfl))) ?_
  refine .g (fun w hC => GRun.on rfl (x_move rfl (hS.get 3 rfl))) ?_
  refine .g (fun w hC => GRun.on rfl (x_index (sz := 2) (e := 43) rfl ((hp.get 1 rfl rfl rfl).trans (by rw [ak])) ((hp.get 2 rfl rfl rfl)) (by kernel_rfl) (by kernel_rfl) c3 c2)) ?_
  refine .g (fun w hC => GRun.on rfl (x_fieldA (off := 0) rfl ((hp.get 3 rfl rfl rfl)) Try.underlying43 rfl rfl (by kernel_rfl))) ?_
  refine .g (fun w hC => GRun.on rfl (x_load1 (d := .int .i64) rfl ((hp.get 4 rfl rfl rfl)) (by kernel_rfl) rfl (row_cell carillonref08_Put.flat43 z43 (ak ▸ hC) aa c3 c2 0 _ rfl))) ?_
  iterate 2 refine .t ?_
  refine .g (fun w hC => GRun.on rfl (x_move rfl (hS.get 1 rfl))) ?_
  refine .g (fun w hC => GRun.on rfl (x_move rfl (hS.get 3 rfl))) ?_
  refine .g (fun w hC => GRun.on rfl (x_index (sz := 2) (e := 43) rfl ((hp.get 8 rfl rfl rfl).trans (by rw [ak])) ((hp.get 9 rfl rfl rfl)) (by kernel_rfl) (by kernel_rfl) c3 c2)) ?_
  refine .g (fun w hC => GRun.on rfl (x_fieldA (off := 1) rfl ((hp.get 10 rfl rfl rfl)) Try.underlying43 rfl rfl (by kernel_rfl))) ?_
  refine .g (fun w hC => GRun.on rfl (x_load1 (d := .string) rfl ((hp.get 11 rfl rfl rfl)) (by kernel_rfl) rfl (row_cell carillonref08_Put.flat43 z43 (ak ▸ hC) aa c3 c2 1 _ rfl))) ?_
  refine .g (fun w hC => GRun.on rfl (x_lenS rfl (by kernel_rfl) ((hp.get 12 rfl rfl rfl)))) ?_
  iterate 3 refine .t ?_
  exact .nil
 clear hS
 intro bV aM hS hp aT
 have hS := hS.cons (show sl _ 21 = .slice ai ac.length ag from hp.get 0 rfl rfl rfl)
 have hS := hS.cons (show sl _ 26 = .int .i64 ((rd_T43 ab aa).f0) from hp.get 5 rfl rfl rfl)
 have hS := hS.cons (show sl _ 34 = .int .i64 (((rd_T43 ab aa).f1).size : Int) from hp.get 13 rfl rfl rfl)
 clear hp
 show ListC _ _ _ _ [_, _, _, _, _] _ _
 refine lc_step rfl (R := fun v w' => Below _ _ w' ∧ (IsR (Kd.int .u8) 5 aM.heap.size ad) v w') (does_call (by kernel_rfl) (ar2 (hS.get 1 rfl) (rfl)) ((carillonref01_Put.calls k ((rd_T43 ab aa).f0) 2 ad _  a5).mono fun _ _ h => h.elim fun v0 h => ⟨v0, h.1, h.2.2, Kd.R_lower h.2.1 (bR aM).size⟩)) ?_
 rintro ck bD ⟨hb, he⟩
 have aw := below_step aT.1 hb
 have aL := below_step aT.2.1 hb
 have a2 := below_step (bR aM) hb
 obtain ⟨bt, bw, rfl, cd, bd⟩ := Kd.R_reads he
 have ch := he
 refine ⟨(Kd.C_below af aw), ?_⟩
 refine hS.nextC (v := .slice bt ad.length bw) (d := 27) rfl (by decide) (by rfl) ?_
 clear hS
 intro bW hS
 refine lc_step rfl (does_more (W := w) (.tmp 21) (.tmp 27) 36 5 1 rfl (by kernel_rfl) (by kernel_rfl) (by decide) _ ac ad _ _ (hS.get 3 rfl) (hS.get 0 rfl) (Kd.R_below aR aL) (Kd.C_below bd (bR bD)) aw c5) ?_
 rintro cl aN ⟨hb, hr, hk⟩
 clear hk
 have ax := hb
 replace hS := (((((hS.nil).cons (hS.get 7 rfl)).cons (hS.get 5 rfl)).cons (hS.get 4 rfl)).cons (hS.get 2 rfl)).cons (hS.get 1 rfl)
 obtain ⟨bu, bx, rfl, ce, ca⟩ := Kd.R_reads hr
 have bg := hr
 clear hr
 refine ⟨(Kd.C_below af ax), ?_⟩
 refine hS.nextC (v := .slice bu ((ac ++ ad : List Int).length) bx) (d := 28) rfl (by decide) (by rfl) ?_
 clear hS
 intro bX hS
 refine lc_step rfl (R := fun v w' => Below _ _ w' ∧ (IsR (Kd.int .u8) 5 aN.heap.size ae) v w') (does_call (by kernel_rfl) (ar2 (hS.get 1 rfl) (rfl)) ((carillonref01_Put.calls k (((rd_T43 ab aa).f1).size : Int) 2 ae _  a6).mono fun _ _ h => h.elim fun v0 h => ⟨v0, h.1, h.2.2, Kd.R_lower h.2.1 (bR aN).size⟩)) ?_
 rintro cm bE ⟨hb, he⟩
 have ay := below_step ax hb
 have aD := below_step (bR aN) hb
 obtain ⟨bv, bz, rfl, cf, be⟩ := Kd.R_reads he
 have ci := he
 refine ⟨(Kd.C_below af ay), ?_⟩
 refine hS.nextC (v := .slice bv ae.length bz) (d := 35) rfl (by decide) (by rfl) ?_
 clear hS
 intro bY hS
 refine lc_step rfl (does_more (W := w) (.tmp 28) (.tmp 35) 36 5 1 rfl (by kernel_rfl) (by kernel_rfl) (by decide) _ (ac ++ ad : List Int) ae _ _ (hS.get 1 rfl) (hS.get 0 rfl) (Kd.R_below bg aD) (Kd.C_below be (bR bE)) ay c6) ?_
 rintro cn aX ⟨hb, hr, hk⟩
 clear hk
 have az := hb
 replace hS := (((((hS.nil).cons (hS.get 6 rfl)).cons (hS.get 5 rfl)).cons (hS.get 4 rfl)).cons (hS.get 3 rfl)).cons (hS.get 2 rfl)
 obtain ⟨am, an, rfl, cg, cb⟩ := Kd.R_reads hr
 have bh := hr
 clear hr
 refine ⟨(Kd.C_below af az), ?_⟩
 refine hS.nextC (v := .slice am (((ac ++ ad : List Int) ++ ae : List Int).length) an) (d := 36) rfl (by decide) (by rfl) ?_
 clear hS
 intro bZ hS
 refine lc_step rfl (R := fun v w' => Below _ _ w' ∧ (IsV (.slice am (((ac ++ ad : List Int) ++ ae : List Int).length) an)) v w') (does_val (x_assign rfl (hS.get 0 rfl)) rfl) ?_
 rintro bp aY ⟨hb, he⟩
 have aA := below_step az hb
 have aE := below_step (bR aX) hb
 obtain rfl : bp = .slice am (((ac ++ ad : List Int) ++ ae : List Int).length) an := he
 refine ⟨(Kd.C_below af aA), ?_⟩
 refine hS.nextC (v := .slice am (((ac ++ ad : List Int) ++ ae : List Int).length) an) (d := 4) rfl (by decide) (by rfl) ?_
 clear hS
 intro b0 hS
 refine lc_nil ?_
 refine aK _ _ ?_
 refine reg_seq_tail 6 (I := I3_ w aX aY) (ps := [IsV (.slice am (((ac ++ ad : List Int) ++ ae : List Int).length) an), IsV (.slice ah ab.length aj), VI aa, IsAT [.int .i64 ((rd_T43 ab aa).f0), .string ((rd_T43 ab aa).f1)], IsAT [.string ((rd_T43 ab aa).f1)], IsV (.string ((rd_T43 ab aa).f1))]) (by kernel_rfl) ?_ ?_ rfl hS ⟨aA, aE, (bR aY)⟩ ?_ ?_
 ·exact bs3
 ·exact .v (.v (.v (.cons (Stays.at_ _) (.cons (Stays.at_ _) (.v (.nil))))))
 ·refine .ms 0 rfl rfl rfl ?_
  refine .ms 5 rfl rfl rfl ?_
  refine .ms 6 rfl rfl rfl ?_
  refine .on rfl (fun a w hS hI hp => does_indexT carillonref08_Put.flat43 (e := 43) (xs := ab) (i := aa) z43 rfl (hp.V 1 rfl rfl) (hp.V 2 rfl rfl) (by kernel_rfl) (by kernel_rfl) c3 c2 c2 (by decide) ((Kd.C_below af hI.1))) ?_
  refine .on rfl (fun a w hS hI hp => does_fieldT (cs := [.int .i64 ((rd_T43 ab aa).f0), .string ((rd_T43 ab aa).f1)]) (off := 1) rfl (hp.V 3 rfl rfl) Try.underlying43 rfl rfl (by kernel_rfl) rfl) ?_
  refine .on rfl (fun a w hS hI hp => does_loadA (d := .string) rfl (hp.V 4 rfl rfl) (by kernel_rfl) rfl) ?_
  exact .nil
 clear hS
 intro b1 cx hS aU hp
 replace hS := (((hS.nil).cons (hS.get 6 rfl)).cons (hS.get 5 rfl)).cons (hS.get 0 rfl)
 have bm : sl _ 37 = .slice am (((ac ++ ad : List Int) ++ ae : List Int).length) an := hp 0 (by decide)
 have bn : sl _ 42 = .string ((rd_T43 ab aa).f1) := hp 5 (by decide)
 have hS := hS.cons bm
 have hS := hS.cons bn
 clear hp bm bn
 show wpList _ _ _ [_, _] _ _
 refine list_step rfl (does_moreS (W := w) (.tmp 37) (.tmp 42) 36 9 5 rfl (by kernel_rfl) (by kernel_rfl) (by kernel_rfl) _ ((ac ++ ad : List Int) ++ ae : List Int) ((rd_T43 ab aa).f1) (hS.get 1 rfl) (hS.get 0 rfl) (Kd.R_below bh aU.2.1) (aU.1) c7) ?_
 rintro co aZ ⟨hb, hr, hk⟩
 clear hk
 have aO := hb
 replace hS := (((hS.nil).cons (hS.get 4 rfl)).cons (hS.get 3 rfl)).cons (hS.get 0 rfl)
 obtain ⟨ao, ap, rfl, bf, cc⟩ := Kd.R_reads hr
 have bi := hr
 clear hr
 refine hS.next (v := .slice ao ((((ac ++ ad : List Int) ++ ae : List Int) ++ bytesOf ((rd_T43 ab aa).f1) : List Int).length) ap) (d := 43) rfl (by decide) (by rfl) ?_
 clear hS
 intro b2 hS
 refine list_step rfl (R := fun v w' => Below _ _ w' ∧ (IsV (.slice ao ((((ac ++ ad : List Int) ++ ae : List Int) ++ bytesOf ((rd_T43 ab aa).f1) : List Int).length) ap)) v w') (does_val (x_assign rfl (hS.get 0 rfl)) rfl) ?_
 rintro bq a0 ⟨hb, he⟩
 have aP := below_step aO hb
 have aF := below_step (bR aZ) hb
 obtain rfl : bq = .slice ao ((((ac ++ ad : List Int) ++ ae : List Int) ++ bytesOf ((rd_T43 ab aa).f1) : List Int).length) ap := he
 refine hS.next (v := .slice ao ((((ac ++ ad : List Int) ++ ae : List Int) ++ bytesOf ((rd_T43 ab aa).f1) : List Int).length) ap) (d := 4) rfl (by decide) (by rfl) ?_
 clear hS
 intro b3 hS
 refine wpList_nil ?_
 refine aJ _ _ ?_
 refine reg_seq_tail 2 (I := I3_ w aZ a0) (ps := [VI aa, VI (wrap64 (aa + 1))]) (by kernel_rfl) ?_ ?_ rfl hS ⟨aP, aF, (bR a0)⟩ ?_ ?_
 ·exact bs3
 ·exact .v (.v (.nil))
 ·refine .ms 4 rfl rfl rfl ?_
  refine .on rfl (fun a w hS hI hp => does_val (x_bin rfl (hp.V 0 rfl rfl) (rfl) (b_add _ _ _ _ _)) rfl) ?_
  exact .nil
 clear hS
 intro b4 bG hS aV hp
 replace hS := (((hS.nil).cons (hS.get 4 rfl)).cons (hS.get 3 rfl)).cons (hS.get 0 rfl)
 have bk : sl _ 14 = .int .i64 (wrap64 (aa + 1)) := hp 1 (by decide)
 have hS := hS.cons bk
 clear hp bk
 show wpList _ _ _ [_] _ _
 refine list_step rfl (R := fun v w' => Below _ _ w' ∧ (VI (wrap64 (aa + 1))) v w') (does_val (x_assign rfl (hS.get 0 rfl)) rfl) ?_
 rintro br cy ⟨hb, he⟩
 have aQ := below_step aV.1 hb
 have aG := below_step aV.2.1 hb
 have a3 := below_step (bR bG) hb
 obtain rfl : br = .int .i64 (wrap64 (aa + 1)) := he
 replace hS := (((hS.nil).cons (hS.get 2 rfl)).cons (hS.get 1 rfl)).cons (hS.get 0 rfl)
 refine hS.next (v := .int .i64 (wrap64 (aa + 1))) (d := 5) rfl (by decide) (by rfl) ?_
 clear hS
 intro b5 hS
 refine wpList_nil ?_
 replace hS := (((hS.nil).cons (hS.get 0 rfl)).cons (hS.get 2 rfl)).cons (hS.get 3 rfl)
 (try simp only [Exit.then, Exit.inBlock])
 exact ⟨n1, Nat.lt_succ_self _, ab, ah, aj, (((ac ++ ad : List Int) ++ ae : List Int) ++ bytesOf ((rd_T43 ab aa).f1) : List Int), ao, ap, wrap64 (aa + 1), H, hS, aQ, bC, (af), bf, (Kd.R_lower (Kd.R_below bi aG) (Nat.le_refl _))⟩
def carillonref04_May.f (a0_0 : Int) (a0_1 : Int) : Option (Bool) := if a0_1 ≥ 0 then (some (decide (a0_1 ≤ 65535))) else (some false)
set_option maxHeartbeats 8000000 in
set_option maxRecDepth 100000 in
theorem carillonref04_May.calls (a0_0 : Int) (a0_1 : Int) (r : Bool) (w : World) (h : carillonref04_May.f a0_0 a0_1 = some r) :
    Calls Try.prog 52 #[.agg #[.int .u64 a0_0, .int .i64 a0_1]] w fun e w' => e = .returned (.bool r) ∧ Below w.heap.size w w' := by
  have hu24 := Try.underlying24
  have HB := Aside0.mk (Below.refl w.heap.size w)
  have H : (if a0_1 ≥ 0 then (some (decide (a0_1 ≤ 65535))) else (some false)) = some r := h
  clear h
  by_cases c2 : a0_1 ≥ 0
  · rw [if_pos c2] at H
    have c2b0 : decide (0 ≤ a0_1) = true := decide_eq_true c2
    clear c2
    obtain rfl := Option.some.inj H
    go_enter Try.func52, Try.ntmps52
    go_wp2_with (first | ((with_reducible refine gate_dst (N := 1) rfl ?_); refine box_event ?hg (N := 1) ?hd (cs := #[.int .u64 a0_0, .int .i64 a0_1]) (t := 24) ?hr ?_; (case hd => rfl); (case hg => rfl); (case hr => first | (go_simp; done) | (go_simp; rfl)); intro gb159 hg w3 hbox hb; have n0_ := Aside0.mk (below_step (by repeat (first | (with_reducible first | exact HB.out | apply below_alloc | apply pw_below_drewN | apply below_drew1) | exact HB.out)) hb); have n1_ := Aside0.mk (hbox); have n2_ := Aside0.mk ((by rw [hg]; exact (below_size (by repeat (first | (with_reducible first | exact HB.out | apply below_alloc | apply pw_below_drewN | apply below_drew1) | exact HB.out))) : w.heap.size ≤ gb159)); have n3_ := Aside0.mk ((by rw [hg]; exact (below_size (by repeat (first | (with_reducible first | exact HB.out | apply below_alloc | apply pw_below_drewN | apply below_drew1) | exact HB.out))) : w.heap.size ≤ gb159)); clear HB; have HB := n0_; have BK159 := n1_; have GW159 := n2_; have GE159 := n3_; clear n0_ n1_ n2_ n3_; clear hb hbox hg; have hcz4_0 : w3.cell? ⟨gb159, 0, none⟩ = some (.int .u64 a0_0) := (blk_cell BK159.out 0).trans rfl; have hcz4_1 : w3.cell? ⟨gb159, 1, none⟩ = some (.int .i64 a0_1) := (blk_cell BK159.out 1).trans rfl; have hfz4_0 := blk_frozen BK159.out 0; have hfz4_1 := blk_frozen BK159.out 1))
    all_goals
      go_ret
      exact ⟨by first | rfl | (simp [errW_none, errW_some] <;> rfl) | (simp [*, errW_none, errW_some] <;> rfl), by repeat (first | (with_reducible first | exact HB.out | apply below_alloc | apply pw_below_drewN | apply below_drew1 | refine below_set ?_ GE159.out) | exact HB.out)⟩
  · rw [if_neg c2] at H
    have c2b0 : decide (0 ≤ a0_1) = false := decide_eq_false c2
    clear c2
    obtain rfl := Option.some.inj H
    go_enter Try.func52, Try.ntmps52
    go_wp2_with (first | ((with_reducible refine gate_dst (N := 1) rfl ?_); refine box_event ?hg (N := 1) ?hd (cs := #[.int .u64 a0_0, .int .i64 a0_1]) (t := 24) ?hr ?_; (case hd => rfl); (case hg => rfl); (case hr => first | (go_simp; done) | (go_simp; rfl)); intro gb159 hg w5 hbox hb; have n0_ := Aside0.mk (below_step (by repeat (first | (with_reducible first | exact HB.out | apply below_alloc | apply pw_below_drewN | apply below_drew1) | exact HB.out)) hb); have n1_ := Aside0.mk (hbox); have n2_ := Aside0.mk ((by rw [hg]; exact (below_size (by repeat (first | (with_reducible first | exact HB.out | apply below_alloc | apply pw_below_drewN | apply below_drew1) | exact HB.out))) : w.heap.size ≤ gb159)); have n3_ := Aside0.mk ((by rw [hg]; exact (below_size (by repeat (first | (with_reducible first | exact HB.out | apply below_alloc | apply pw_below_drewN | apply below_drew1) | exact HB.out))) : w.heap.size ≤ gb159)); clear HB; have HB := n0_; have BK159 := n1_; have GW159 := n2_; have GE159 := n3_; clear n0_ n1_ n2_ n3_; clear hb hbox hg; have hcz6_0 : w5.cell? ⟨gb159, 0, none⟩ = some (.int .u64 a0_0) := (blk_cell BK159.out 0).trans rfl; have hcz6_1 : w5.cell? ⟨gb159, 1, none⟩ = some (.int .i64 a0_1) := (blk_cell BK159.out 1).trans rfl; have hfz6_0 := blk_frozen BK159.out 0; have hfz6_1 := blk_frozen BK159.out 1))
    all_goals
      go_ret
      exact ⟨by first | rfl | (simp [errW_none, errW_some] <;> rfl) | (simp [*, errW_none, errW_some] <;> rfl), by repeat (first | (with_reducible first | exact HB.out | apply below_alloc | apply pw_below_drewN | apply below_drew1 | refine below_set ?_ GE159.out) | exact HB.out)⟩
def carillonref05_In.f (a0 : Int) (a1 : Int) (a2 : Int) : Option (Bool) := if a0 ≥ a1 then (some (decide (a0 ≤ a2))) else (some false)
set_option maxHeartbeats 8000000 in
set_option maxRecDepth 100000 in
theorem carillonref05_In.calls (a0 : Int) (a1 : Int) (a2 : Int) (r : Bool) (w : World) (h : carillonref05_In.f a0 a1 a2 = some r) :
    Calls Try.prog 53 #[.int .i64 a0, .int .i64 a1, .int .i64 a2] w fun e w' => e = .returned (.bool r) ∧ Drawn0 w w' := by
  have H : (if a0 ≥ a1 then (some (decide (a0 ≤ a2))) else (some false)) = some r := h
  clear h
  by_cases c4 : a0 ≥ a1
  · rw [if_pos c4] at H
    have c4b0 : decide (a1 ≤ a0) = true := decide_eq_true c4
    clear c4
    obtain rfl := Option.some.inj H
    go_enter Try.func53, Try.ntmps53
    go_wp2
    all_goals
      go_ret
      exact ⟨by first | rfl | (simp; done) | (simp [*]; done), by repeat (first | exact Drawn0.refl _ | apply Drawn0.step)⟩
  · rw [if_neg c4] at H
    have c4b0 : decide (a1 ≤ a0) = false := decide_eq_false c4
    clear c4
    obtain rfl := Option.some.inj H
    go_enter Try.func53, Try.ntmps53
    go_wp2
    all_goals
      go_ret
      exact ⟨by first | rfl | (simp; done) | (simp [*]; done), by repeat (first | exact Drawn0.refl _ | apply Drawn0.step)⟩
def carillonref06_Known.f (a0 : Int) : Option (Bool) := if a0 ≥ 0 then (if a0 ≤ 3 then (some true) else (if a0 ≥ 8 then (some (decide (a0 ≤ 13))) else (some false))) else (if a0 ≥ 8 then (some (decide (a0 ≤ 13))) else (some false))
set_option maxHeartbeats 8000000 in
set_option maxRecDepth 100000 in
theorem carillonref06_Known.calls (a0 : Int) (r : Bool) (w : World) (h : carillonref06_Known.f a0 = some r) :
    Calls Try.prog 68 #[.int .i64 a0] w fun e w' => e = .returned (.bool r) ∧ Drawn0 w w' := by
  have H : (if a0 ≥ 0 then (if a0 ≤ 3 then (some true) else (if a0 ≥ 8 then (some (decide (a0 ≤ 13))) else (some false))) else (if a0 ≥ 8 then (some (decide (a0 ≤ 13))) else (some false))) = some r := h
  clear h
  by_cases c2 : a0 ≥ 0
  · rw [if_pos c2] at H
    have c2b0 : decide (0 ≤ a0) = true := decide_eq_true c2
    clear c2
    by_cases c3 : a0 ≤ 3
    · rw [if_pos c3] at H
      have c3b0 : decide (a0 ≤ 3) = true := decide_eq_true c3
      clear c3
      obtain rfl := Option.some.inj H
      go_enter Try.func68, Try.ntmps68
      go_wp2
      all_goals
        go_ret
        exact ⟨by first | rfl | (simp; done) | (simp [*]; done), by repeat (first | exact Drawn0.refl _ | apply Drawn0.step)⟩
    · rw [if_neg c3] at H
      have c3b0 : decide (a0 ≤ 3) = false := decide_eq_false c3
      clear c3
      by_cases c4 : a0 ≥ 8
      · rw [if_pos c4] at H
        have c4b0 : decide (8 ≤ a0) = true := decide_eq_true c4
        clear c4
        obtain rfl := Option.some.inj H
        go_enter Try.func68, Try.ntmps68
        go_wp2
        all_goals
          go_ret
          exact ⟨by first | rfl | (simp; done) | (simp [*]; done), by repeat (first | exact Drawn0.refl _ | apply Drawn0.step)⟩
      · rw [if_neg c4] at H
        have c4b0 : decide (8 ≤ a0) = false := decide_eq_false c4
        clear c4
        obtain rfl := Option.some.inj H
        go_enter Try.func68, Try.ntmps68
        go_wp2
        all_goals
          go_ret
          exact ⟨by first | rfl | (simp; done) | (simp [*]; done), by repeat (first | exact Drawn0.refl _ | apply Drawn0.step)⟩
  · rw [if_neg c2] at H
    have c2b0 : decide (0 ≤ a0) = false := decide_eq_false c2
    clear c2
    by_cases c5 : a0 ≥ 8
    · rw [if_pos c5] at H
      have c5b0 : decide (8 ≤ a0) = true := decide_eq_true c5
      clear c5
      obtain rfl := Option.some.inj H
      go_enter Try.func68, Try.ntmps68
      go_wp2
      all_goals
        go_ret
        exact ⟨by first | rfl | (simp; done) | (simp [*]; done), by repeat (first | exact Drawn0.refl _ | apply Drawn0.step)⟩
    · rw [if_neg c5] at H
      have c5b0 : decide (8 ≤ a0) = false := decide_eq_false c5
      clear c5
      obtain rfl := Option.some.inj H
      go_enter Try.func68, Try.ntmps68
      go_wp2
      all_goals
        go_ret
        exact ⟨by first | rfl | (simp; done) | (simp [*]; done), by repeat (first | exact Drawn0.refl _ | apply Drawn0.step)⟩
end Go.Proofs.Ytiomlbkakiienaa.P
