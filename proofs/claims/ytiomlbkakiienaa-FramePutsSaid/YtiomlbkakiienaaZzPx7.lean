/- Functions and loops of the given program as Lean functions, and that the code comes to what they say: written by this session's own program; Lean checks it. -/
import Derived.Test.YtiomlbkakiienaaZzPx0
import Derived.Test.YtiomlbkakiienaaZzPx6
namespace Go.Proofs.Ytiomlbkakiienaa.P
open Go.RowKit Go.Proofs.YtiomlbkakiienaaW.PrintWords Go.Proofs.YtiomlbkakiienaaW.PrintLast Go.Proofs.YtiomlbkakiienaaW.PrintMore
attribute [local go_sem] max2_int min2_int max_two min_two max_three min_three max_four min_four   -- for this text's walks alone
set_option linter.unusedVariables false
set_option linter.unusedSimpArgs false
def carillonref08_Put.l1 (k : Nat) : Nat → (List (S43)) → (List Int) → Int → Option (List Int × Bool)
  | 0, _, _, _ => none
  | n1 + 1, y1_0, y1_4, x1_5 => if x1_5 < (y1_0.length : Int) then (if 0 ≤ x1_5 then ((carillonref08_Check.f ((rd_T43 y1_0 x1_5).f0) ((rd_T43 y1_0 x1_5).f1)).bind fun t1008 => (if t1008 = true then ((carillonref01_Put.f k ((rd_T43 y1_0 x1_5).f0) 2).bind fun t1016 => (if (y1_4.length + t1016.length) * 1 ≤ 140737488355328 then ((carillonref01_Put.f k (((rd_T43 y1_0 x1_5).f1).size : Int) 2).bind fun t1023 => (if ((y1_4 ++ t1016 : List Int).length + t1023.length) * 1 ≤ 140737488355328 then (if ((y1_4 ++ t1016 : List Int) ++ t1023 : List Int).length + ((rd_T43 y1_0 x1_5).f1).size ≤ 140737488355328 then (carillonref08_Put.l1 k n1 y1_0 (((y1_4 ++ t1016 : List Int) ++ t1023 : List Int) ++ bytesOf ((rd_T43 y1_0 x1_5).f1) : List Int) (wrap64 (x1_5 + 1))) else (none)) else (none))) else (none))) else (some ([], false)))) else (none)) else (some (y1_4, true))
def carillonref08_Put.f (k : Nat) (l0 : List (S43)) : Option (List Int × Bool) := if (l0.length : Int) > 8 then (some ([], false)) else (carillonref08_Put.l1 k k l0 [] 0)
open Go.Proofs.Ytiomlbkakiienaa.E in
theorem carillonref08_Put.flat43 : Flat k43 (fun x => [.int .i64 x.f0, .string x.f1]) := ⟨fun w x cs h => k43_open h, fun w base x => k43_mkM w base _ x⟩
open Go.Proofs.Ytiomlbkakiienaa.E in
set_option maxHeartbeats 60000000 in
set_option maxRecDepth 100000 in
theorem carillonref08_Put.calls (k : Nat) (A0 : Option Addr) (aS : Nat) (l0 : List (S43)) (r1 : List Int) (r2 : Bool) (w : World) (HR0 : Kd.C k43 w A0 l0.length l0) (HC0 : l0.length ≤ aS) (h : carillonref08_Put.f k l0 = some (r1, r2)) :
    Calls Try.prog 23 #[.slice A0 l0.length aS] w fun e w' => ∃ v0_ : Value, e = .returned (.tuple #[v0_, .bool r2]) ∧ Kd.R (Kd.int .u8) 5 w' w.heap.size (fun _ => True) v0_ r1 ∧ Below w.heap.size w w' := by
 have H := h
 clear h
 unfold carillonref08_Put.f at H
 by_cases c1 : (l0.length : Int) > 8
 ·rw [if_pos c1] at H
  simp only [Option.some.injEq, Prod.mk.injEq] at H
  obtain ⟨rfl, rfl⟩ := H
  refine calls_of_wp (fn := Try.f23) (by kernel_rfl) rfl ?_
  have hS := St.enter #[.slice A0 l0.length aS] 45 (by simp) [(0, .slice A0 l0.length aS)] (by simp)
  have bj := Below.refl w.heap.size w
  refine wp_seq_k (fun K1 bl => ?_)
  refine reg_seq (I := I1_ w) (ps := [IsV (.slice none 0 0), VB false]) (by kernel_rfl) ?_ ?_ rfl hS bj ?_ ?_
  ·exact bs1
  ·exact .v (.v (.nil))
  ·refine .on rfl (fun a w hS hI hp => does_val (x_assign rfl (rfl)) rfl) ?_
   refine .on rfl (fun a w hS hI hp => does_val (x_assign rfl (rfl)) rfl) ?_
   exact .nil
  clear hS
  intro ce w3 hS bz hp
  clear hp
  refine bl _ _ ?_
  refine wp_seq_k (fun K4 bV => ?_)
  refine wp_seq_k (fun K5 bm => ?_)
  refine reg_seq (I := I2_ w w3) (ps := [IsV (.slice A0 l0.length aS), VI (l0.length : Int), VB (decide ((l0.length : Int) > 8))]) (by kernel_rfl) ?_ ?_ rfl hS ⟨bz, (bR w3)⟩ ?_ ?_
  ·exact bs2
  ·exact .v (.v (.v (.nil)))
  ·refine .ms 0 rfl rfl rfl ?_
   refine .on rfl (fun a w hS hI hp => does_val (x_len (e := 43) rfl (by kernel_rfl) (hp.V 0 rfl rfl)) rfl) ?_
   refine .on rfl (fun a w hS hI hp => does_val (x_bin rfl (hp.V 1 rfl rfl) (rfl) (b_gtr _ _ _ _ _ _)) rfl) ?_
   exact .nil
  clear hS
  intro cf w7 hS bA hp
  have a2 : sl _ 8 = .bool (decide ((l0.length : Int) > 8)) := hp 2 (by decide)
  have hS := hS.cons a2
  clear hp a2
  refine bm _ _ ?_
  refine wp_cond_true ((hS.get 0 rfl).trans (bT (decide_eq_true c1))) ?_
  refine wp_seq_k (fun K8 bn => ?_)
  refine reg_seq (I := I2_ w w7) (ps := [IsV (.slice none 0 0), VB false]) (by kernel_rfl) ?_ ?_ rfl hS ⟨bA.1, (bR w7)⟩ ?_ ?_
  ·exact bs2
  ·exact .v (.v (.nil))
  ·refine .on rfl (fun a w hS hI hp => does_val (x_assign rfl (rfl)) rfl) ?_
   refine .on rfl (fun a w hS hI hp => does_val (x_assign rfl (rfl)) rfl) ?_
   exact .nil
  clear hS
  intro cg bE hS a7 hp
  replace hS := hS.nil
  have aI : sl _ 2 = .slice none 0 0 := hp 0 (by decide)
  have aJ : sl _ 3 = .bool false := hp 1 (by decide)
  have hS := hS.cons aI
  have hS := hS.cons aJ
  clear hp aI aJ
  refine bn _ _ ?_
  refine wp_ret ?_
  (try simp only [Exit.then, Exit.inBlock, Exit.jump, Exit.noGoto])
  exact bodyPost_ret (v := .tuple #[.slice none 0 0, .bool false]) (results_list (rs := [.tmp 2, .tmp 3]) rfl (by simp) (Vals.at (hS.get 1 rfl) (Vals.at (hS.get 0 rfl) .nil))) hS.nodef ⟨.slice none 0 0, rfl, Kd.R_nil _ _ _ _ _, a7.1⟩
 rw [if_neg c1] at H
 refine calls_of_wp (fn := Try.f23) (by kernel_rfl) rfl ?_
 have hS := St.enter #[.slice A0 l0.length aS] 45 (by simp) [(0, .slice A0 l0.length aS)] (by simp)
 have bj := Below.refl w.heap.size w
 refine wp_seq_k (fun K1 bl => ?_)
 refine reg_seq (I := I1_ w) (ps := [IsV (.slice none 0 0), VB false]) (by kernel_rfl) ?_ ?_ rfl hS bj ?_ ?_
 ·exact bs1
 ·exact .v (.v (.nil))
 ·refine .on rfl (fun a w hS hI hp => does_val (x_assign rfl (rfl)) rfl) ?_
  refine .on rfl (fun a w hS hI hp => does_val (x_assign rfl (rfl)) rfl) ?_
  exact .nil
 clear hS
 intro ce w3 hS bz hp
 clear hp
 refine bl _ _ ?_
 refine wp_seq_k (fun K4 bV => ?_)
 refine wp_seq_k (fun K5 bm => ?_)
 refine reg_seq (I := I2_ w w3) (ps := [IsV (.slice A0 l0.length aS), VI (l0.length : Int), VB (decide ((l0.length : Int) > 8))]) (by kernel_rfl) ?_ ?_ rfl hS ⟨bz, (bR w3)⟩ ?_ ?_
 ·exact bs2
 ·exact .v (.v (.v (.nil)))
 ·refine .ms 0 rfl rfl rfl ?_
  refine .on rfl (fun a w hS hI hp => does_val (x_len (e := 43) rfl (by kernel_rfl) (hp.V 0 rfl rfl)) rfl) ?_
  refine .on rfl (fun a w hS hI hp => does_val (x_bin rfl (hp.V 1 rfl rfl) (rfl) (b_gtr _ _ _ _ _ _)) rfl) ?_
  exact .nil
 clear hS
 intro cf w7 hS bA hp
 have a2 : sl _ 8 = .bool (decide ((l0.length : Int) > 8)) := hp 2 (by decide)
 have hS := hS.cons a2
 clear hp a2
 refine bm _ _ ?_
 refine wp_cond_false ((hS.get 0 rfl).trans (bF (decide_eq_false c1))) ?_
 refine wp_skip ?_
 refine bV _ _ ?_
 refine wp_seq_k (fun K8 bn => ?_)
 refine reg_seq (I := I2_ w w7) (ps := [IsV (.slice none 0 0)]) (by kernel_rfl) ?_ ?_ rfl hS ⟨bA.1, (bR w7)⟩ ?_ ?_
 ·exact bs2
 ·exact .v (.nil)
 ·refine .on rfl (fun a w hS hI hp => does_val (x_assign rfl (rfl)) rfl) ?_
  exact .nil
 clear hS
 intro cg bE hS a7 hp
 replace hS := (hS.nil).cons (hS.get 1 rfl)
 have bW : sl _ 4 = .slice none 0 0 := hp 0 (by decide)
 have hS := hS.cons bW
 clear hp bW
 refine bn _ _ ?_
 refine wp_seq_k (fun cC bY => ?_)
 refine wp_seq_k (fun cD bZ => ?_)
 refine reg_seq (I := I2_ w bE) (ps := [VI 0]) (by kernel_rfl) ?_ ?_ rfl hS ⟨a7.1, (bR bE)⟩ ?_ ?_
 ·exact bs2
 ·exact .v (.nil)
 ·refine .on rfl (fun a w hS hI hp => does_val (x_assign rfl (rfl)) rfl) ?_
  exact .nil
 clear hS
 intro cB cF hS b0 hp
 have bX : sl _ 5 = .int .i64 0 := hp 0 (by decide)
 have hS := hS.cons bX
 clear hp bX
 refine bZ _ _ ?_
 refine wp_block ?_
 replace hS := (((hS.nil).cons (hS.get 0 rfl)).cons (hS.get 1 rfl)).cons (hS.get 2 rfl)
 refine wp_loop_ghost (fun n_ a_ an => ∃ (ab : List (S43)) (ag : Option Addr) (ah : Nat) (ac : List Int) (aj : Option Addr) (ai : Nat) (aa : Int), carillonref08_Put.l1 k n_ ab ac aa = some (r1, r2) ∧ St 45 [(0, .slice ag ab.length ah), (4, .slice aj ac.length ai), (5, .int .i64 aa)] a_ ∧ Below w.heap.size w an ∧ ab.length ≤ ah ∧ Kd.C k43 w ag ab.length ab ∧ ac.length ≤ ai ∧ Kd.R (Kd.int .u8) 5 an w.heap.size (fun _ => True) (.slice aj ac.length ai) ac) k ⟨l0, A0, aS, [], none, 0, 0, H, hS, b0.1, HC0, (HR0), (Nat.le_refl _), (Kd.R_nil _ _ _ _ _)⟩ ?_
 clear H hS
 rintro n1 cE an ⟨ab, ag, ah, ac, aj, ai, aa, H, hS, aC, bP, af, cw, a1⟩
 rcases n1 with _ | n1
 ·exact absurd H (by simp [carillonref08_Put.l1])
 rw [carillonref08_Put.l1] at H
 (try dsimp only at H)
 by_cases c2 : aa < (ab.length : Int)
 rotate_left
 ·rw [if_neg c2] at H
  simp only [Option.some.injEq, Prod.mk.injEq] at H
  obtain ⟨rfl, rfl⟩ := H
  refine wp_seq_k (fun a8 az => ?_)
  refine wp_seq_k (fun a9 aq => ?_)
  refine reg_seq (I := I2_ w an) (ps := [VI aa, IsV (.slice ag ab.length ah), VI (ab.length : Int), VB (decide (aa < (ab.length : Int)))]) (by kernel_rfl) ?_ ?_ rfl hS ⟨aC, (bR an)⟩ ?_ ?_
  ·exact bs2
  ·exact .v (.v (.v (.v (.nil))))
  ·refine .ms 2 rfl rfl rfl ?_
   refine .ms 0 rfl rfl rfl ?_
   refine .on rfl (fun a w hS hI hp => does_val (x_len (e := 43) rfl (by kernel_rfl) (hp.V 1 rfl rfl)) rfl) ?_
   refine .on rfl (fun a w hS hI hp => does_val (x_bin rfl (hp.V 0 rfl rfl) (hp.V 2 rfl rfl) (b_lss _ _ _ _ _ _)) rfl) ?_
   exact .nil
  clear hS
  intro aW am hS ak hp
  have ar : sl _ 12 = .bool (decide (aa < (ab.length : Int))) := hp 3 (by decide)
  have hS := hS.cons ar
  clear hp ar
  refine aq _ _ ?_
  refine wp_cond_false ((hS.get 0 rfl).trans (bF (decide_eq_false c2))) ?_
  refine wp_exit ?_
  (try simp only [Exit.then, Exit.inBlock, reduceIte])
  refine bY _ _ ?_
  refine wp_seq_k (fun ba aA => ?_)
  refine reg_seq (I := I3_ w an am) (ps := [IsV (.slice aj ac.length ai), IsV (.slice aj ac.length ai), VB true]) (by kernel_rfl) ?_ ?_ rfl hS ⟨ak.1, ak.2, (bR am)⟩ ?_ ?_
  ·exact bs3
  ·exact .v (.v (.v (.nil)))
  ·refine .ms 2 rfl rfl rfl ?_
   refine .asg 0 rfl rfl rfl ?_
   refine .on rfl (fun a w hS hI hp => does_val (x_assign rfl (rfl)) rfl) ?_
   exact .nil
  clear hS
  intro b1 cx hS a3 hp
  replace hS := hS.nil
  have aI : sl _ 2 = .slice aj ac.length ai := hp 1 (by decide)
  have aJ : sl _ 3 = .bool true := hp 2 (by decide)
  have hS := hS.cons aI
  have hS := hS.cons aJ
  clear hp aI aJ
  refine aA _ _ ?_
  refine wp_ret ?_
  (try simp only [Exit.then, Exit.inBlock, Exit.jump, Exit.noGoto])
  exact bodyPost_ret (v := .tuple #[.slice aj ac.length ai, .bool true]) (results_list (rs := [.tmp 2, .tmp 3]) rfl (by simp) (Vals.at (hS.get 1 rfl) (Vals.at (hS.get 0 rfl) .nil))) hS.nodef ⟨.slice aj ac.length ai, rfl, Kd.R_lower (Kd.R_below a1 a3.2.1) (Nat.le_refl _), a3.1⟩
 rw [if_pos c2] at H
 by_cases c3 : 0 ≤ aa
 rotate_left
 ·rw [if_neg c3] at H
  exact absurd H (by simp)
 rw [if_pos c3] at H
 obtain ⟨al, aV, H⟩ := Option.bind_eq_some_iff.mp H
 by_cases c4 : al = true
 rotate_left
 ·rw [if_neg c4] at H
  simp only [Option.some.injEq, Prod.mk.injEq] at H
  obtain ⟨rfl, rfl⟩ := H
  refine wp_seq_k (fun a8 az => ?_)
  refine wp_seq_k (fun a9 aq => ?_)
  refine reg_seq (I := I2_ w an) (ps := [VI aa, IsV (.slice ag ab.length ah), VI (ab.length : Int), VB (decide (aa < (ab.length : Int)))]) (by kernel_rfl) ?_ ?_ rfl hS ⟨aC, (bR an)⟩ ?_ ?_
  ·exact bs2
  ·exact .v (.v (.v (.v (.nil))))
  ·refine .ms 2 rfl rfl rfl ?_
   refine .ms 0 rfl rfl rfl ?_
   refine .on rfl (fun a w hS hI hp => does_val (x_len (e := 43) rfl (by kernel_rfl) (hp.V 1 rfl rfl)) rfl) ?_
   refine .on rfl (fun a w hS hI hp => does_val (x_bin rfl (hp.V 0 rfl rfl) (hp.V 2 rfl rfl) (b_lss _ _ _ _ _ _)) rfl) ?_
   exact .nil
  clear hS
  intro aW am hS ak hp
  have ar : sl _ 12 = .bool (decide (aa < (ab.length : Int))) := hp 3 (by decide)
  have hS := hS.cons ar
  clear hp ar
  refine aq _ _ ?_
  refine wp_cond_true ((hS.get 0 rfl).trans (bT (decide_eq_true c2))) ?_
  refine wp_skip ?_
  refine az _ _ ?_
  refine wp_seq_k (fun ba aA => ?_)
  refine wp_block ?_
  refine wp_seq_k (fun bM a0 => ?_)
  refine wp_seq_k (fun bN aO => ?_)
  refine reg_seq (I := I3_ w an am) (ps := [IsV (.slice ag ab.length ah), VI aa, IsAT [.int .i64 ((rd_T43 ab aa).f0), .string ((rd_T43 ab aa).f1)], IsV (.agg #[.int .i64 ((rd_T43 ab aa).f0), .string ((rd_T43 ab aa).f1)]), VB al, VB (!al)]) (by kernel_rfl) ?_ ?_ rfl hS ⟨ak.1, ak.2, (bR am)⟩ ?_ ?_
  ·exact bs3
  ·exact .v (.v (.cons (Stays.at_ _) (.v (.v (.v (.nil))))))
  ·refine .ms 1 rfl rfl rfl ?_
   refine .ms 3 rfl rfl rfl ?_
   refine .on rfl (fun a w hS hI hp => does_indexT carillonref08_Put.flat43 (e := 43) (xs := ab) (i := aa) z43 rfl (hp.V 0 rfl rfl) (hp.V 1 rfl rfl) (by kernel_rfl) (by kernel_rfl) c3 c2 c2 (by decide) ((Kd.C_below af hI.1))) ?_
   refine .on rfl (fun a w hS hI hp => does_loadT (cs := [.int .i64 ((rd_T43 ab aa).f0), .string ((rd_T43 ab aa).f1)]) rfl (hp.V 2 rfl rfl) Try.underlying43 rfl (by kernel_rfl)) ?_
   refine .on rfl (fun a w hS hI hp => does_call (by kernel_rfl) (ar1 (hp.V 3 rfl rfl)) ((carillonref08_Check.calls ((rd_T43 ab aa).f0) ((rd_T43 ab aa).f1) al _  aV).mono fun _ _ h => ⟨_, h.1, h.2, rfl⟩)) ?_
   refine .on rfl (fun a w hS hI hp => does_val (x_not rfl (hp.V 4 rfl rfl)) rfl) ?_
   exact .nil
  clear hS
  intro bk aB hS ao hp
  replace hS := (((hS.nil).cons (hS.get 3 rfl)).cons (hS.get 2 rfl)).cons (hS.get 1 rfl)
  have aQ : sl _ 20 = .bool (!al) := hp 5 (by decide)
  have hS := hS.cons aQ
  clear hp aQ
  refine aO _ _ ?_
  refine wp_cond_true ((hS.get 0 rfl).trans (bT (congrArg (!·) (Bool.eq_false_iff.2 c4)))) ?_
  refine wp_seq_k (fun bO aP => ?_)
  refine reg_seq (I := I3_ w an aB) (ps := [IsV (.slice none 0 0), VB false]) (by kernel_rfl) ?_ ?_ rfl hS ⟨ao.1, ao.2.1, (bR aB)⟩ ?_ ?_
  ·exact bs3
  ·exact .v (.v (.nil))
  ·refine .on rfl (fun a w hS hI hp => does_val (x_assign rfl (rfl)) rfl) ?_
   refine .on rfl (fun a w hS hI hp => does_val (x_assign rfl (rfl)) rfl) ?_
   exact .nil
  clear hS
  intro b2 cy hS bx hp
  replace hS := hS.nil
  have aI : sl _ 2 = .slice none 0 0 := hp 0 (by decide)
  have aJ : sl _ 3 = .bool false := hp 1 (by decide)
  have hS := hS.cons aI
  have hS := hS.cons aJ
  clear hp aI aJ
  refine aP _ _ ?_
  refine wp_ret ?_
  (try simp only [Exit.then, Exit.inBlock, Exit.jump, Exit.noGoto])
  exact bodyPost_ret (v := .tuple #[.slice none 0 0, .bool false]) (results_list (rs := [.tmp 2, .tmp 3]) rfl (by simp) (Vals.at (hS.get 1 rfl) (Vals.at (hS.get 0 rfl) .nil))) hS.nodef ⟨.slice none 0 0, rfl, Kd.R_nil _ _ _ _ _, bx.1⟩
 rw [if_pos c4] at H
 obtain ⟨ad, bh, H⟩ := Option.bind_eq_some_iff.mp H
 by_cases c5 : (ac.length + ad.length) * 1 ≤ 140737488355328
 rotate_left
 ·rw [if_neg c5] at H
  exact absurd H (by simp)
 rw [if_pos c5] at H
 obtain ⟨ae, bi, H⟩ := Option.bind_eq_some_iff.mp H
 by_cases c6 : ((ac ++ ad : List Int).length + ae.length) * 1 ≤ 140737488355328
 rotate_left
 ·rw [if_neg c6] at H
  exact absurd H (by simp)
 rw [if_pos c6] at H
 by_cases c7 : ((ac ++ ad : List Int) ++ ae : List Int).length + ((rd_T43 ab aa).f1).size ≤ 140737488355328
 rotate_left
 ·rw [if_neg c7] at H
  exact absurd H (by simp)
 rw [if_pos c7] at H
 refine wp_seq_k (fun a8 az => ?_)
 refine wp_seq_k (fun a9 aq => ?_)
 refine reg_seq (I := I2_ w an) (ps := [VI aa, IsV (.slice ag ab.length ah), VI (ab.length : Int), VB (decide (aa < (ab.length : Int)))]) (by kernel_rfl) ?_ ?_ rfl hS ⟨aC, (bR an)⟩ ?_ ?_
 ·exact bs2
 ·exact .v (.v (.v (.v (.nil))))
 ·refine .ms 2 rfl rfl rfl ?_
  refine .ms 0 rfl rfl rfl ?_
  refine .on rfl (fun a w hS hI hp => does_val (x_len (e := 43) rfl (by kernel_rfl) (hp.V 1 rfl rfl)) rfl) ?_
  refine .on rfl (fun a w hS hI hp => does_val (x_bin rfl (hp.V 0 rfl rfl) (hp.V 2 rfl rfl) (b_lss _ _ _ _ _ _)) rfl) ?_
  exact .nil
 clear hS
 intro aW am hS ak hp
 have ar : sl _ 12 = .bool (decide (aa < (ab.length : Int))) := hp 3 (by decide)
 have hS := hS.cons ar
 clear hp ar
 refine aq _ _ ?_
 refine wp_cond_true ((hS.get 0 rfl).trans (bT (decide_eq_true c2))) ?_
 refine wp_skip ?_
 refine az _ _ ?_
 refine wp_seq_k (fun ba aA => ?_)
 refine wp_block ?_
 refine wp_seq_k (fun bM a0 => ?_)
 refine wp_seq_k (fun bN aO => ?_)
 refine reg_seq (I := I3_ w an am) (ps := [IsV (.slice ag ab.length ah), VI aa, IsAT [.int .i64 ((rd_T43 ab aa).f0), .string ((rd_T43 ab aa).f1)], IsV (.agg #[.int .i64 ((rd_T43 ab aa).f0), .string ((rd_T43 ab aa).f1)]), VB al, VB (!al)]) (by kernel_rfl) ?_ ?_ rfl hS ⟨ak.1, ak.2, (bR am)⟩ ?_ ?_
 ·exact bs3
 ·exact .v (.v (.cons (Stays.at_ _) (.v (.v (.v (.nil))))))
 ·refine .ms 1 rfl rfl rfl ?_
  refine .ms 3 rfl rfl rfl ?_
  refine .on rfl (fun a w hS hI hp => does_indexT carillonref08_Put.flat43 (e := 43) (xs := ab) (i := aa) z43 rfl (hp.V 0 rfl rfl) (hp.V 1 rfl rfl) (by kernel_rfl) (by kernel_rfl) c3 c2 c2 (by decide) ((Kd.C_below af hI.1))) ?_
  refine .on rfl (fun a w hS hI hp => does_loadT (cs := [.int .i64 ((rd_T43 ab aa).f0), .string ((rd_T43 ab aa).f1)]) rfl (hp.V 2 rfl rfl) Try.underlying43 rfl (by kernel_rfl)) ?_
  refine .on rfl (fun a w hS hI hp => does_call (by kernel_rfl) (ar1 (hp.V 3 rfl rfl)) ((carillonref08_Check.calls ((rd_T43 ab aa).f0) ((rd_T43 ab aa).f1) al _  aV).mono fun _ _ h => ⟨_, h.1, h.2, rfl⟩)) ?_
  refine .on rfl (fun a w hS hI hp => does_val (x_not rfl (hp.V 4 rfl rfl)) rfl) ?_
  exact .nil
 clear hS
 intro bk aB hS ao hp
 replace hS := (((hS.nil).cons (hS.get 3 rfl)).cons (hS.get 2 rfl)).cons (hS.get 1 rfl)
 have aQ : sl _ 20 = .bool (!al) := hp 5 (by decide)
 have hS := hS.cons aQ
 clear hp aQ
 refine aO _ _ ?_
 refine wp_cond_false ((hS.get 0 rfl).trans (bF (congrArg (!·) c4))) ?_
 refine wp_skip ?_
 refine a0 _ _ ?_
 refine wp_seq_k (fun bO aP => ?_)
 obtain ⟨ay, ap⟩ := row_some z43 (Kd.C_below af ao.1) c3 c2
 refine reg_float (I := I3_ w an aB) (C := fun x => Kd.C k43 x ag ab.length ab) [true, true, true, true, true, true, false, false, true, true, true, true, true, true, false, false, false] [.slice aj ac.length ai, .slice ag ab.length ah, .int .i64 aa, .pointer (some (ay.add ((aa : Int).toNat * 2))), .pointer (some ((ay.add ((aa : Int).toNat * 2)).add 0)), .int .i64 ((rd_T43 ab aa).f0), undef, undef, .slice ag ab.length ah, .int .i64 aa, .pointer (some (ay.add ((aa : Int).toNat * 2))), .pointer (some ((ay.add ((aa : Int).toNat * 2)).add 1)), .string ((rd_T43 ab aa).f1), .int .i64 (((rd_T43 ab aa).f1).size : Int), undef, undef, undef] [0, 0, 0, 6, 14, 30, 62, 127, 0, 0, 768, 1792, 3840, 7936, 16383, 32767, 65535] (by kernel_rfl) (by kernel_rfl) rfl ?_ ?_ hS ⟨ao.1, ao.2.1, (bR aB)⟩ ?_ ?_
 ·exact bs3
 ·exact fun x hI => (Kd.C_below af hI.1)
 ·intro a hS hp
  refine .g (fun w hC => GRun.on rfl (x_move rfl (hS.get 2 rfl))) ?_
  refine .g (fun w hC => GRun.on rfl (x_move rfl (hS.get 1 rfl))) ?_
  refine .g (fun w hC => GRun.on rfl (x_move rfl (hS.get 3 rfl))) ?_
  refine .g (fun w hC => GRun.on rfl (x_index (sz := 2) (e := 43) rfl ((hp.get 1 rfl rfl rfl).trans (by rw [ap])) ((hp.get 2 rfl rfl rfl)) (by kernel_rfl) (by kernel_rfl) c3 c2)) ?_
  refine .g (fun w hC => GRun.on rfl (x_fieldA (off := 0) rfl ((hp.get 3 rfl rfl rfl)) Try.underlying43 rfl rfl (by kernel_rfl))) ?_
  refine .g (fun w hC => GRun.on rfl (x_load1 (d := .int .i64) rfl ((hp.get 4 rfl rfl rfl)) (by kernel_rfl) rfl (row_cell carillonref08_Put.flat43 z43 (ap ▸ hC) aa c3 c2 0 _ rfl))) ?_
  iterate 2 refine .t ?_
  refine .g (fun w hC => GRun.on rfl (x_move rfl (hS.get 1 rfl))) ?_
  refine .g (fun w hC => GRun.on rfl (x_move rfl (hS.get 3 rfl))) ?_
  refine .g (fun w hC => GRun.on rfl (x_index (sz := 2) (e := 43) rfl ((hp.get 8 rfl rfl rfl).trans (by rw [ap])) ((hp.get 9 rfl rfl rfl)) (by kernel_rfl) (by kernel_rfl) c3 c2)) ?_
  refine .g (fun w hC => GRun.on rfl (x_fieldA (off := 1) rfl ((hp.get 10 rfl rfl rfl)) Try.underlying43 rfl rfl (by kernel_rfl))) ?_
  refine .g (fun w hC => GRun.on rfl (x_load1 (d := .string) rfl ((hp.get 11 rfl rfl rfl)) (by kernel_rfl) rfl (row_cell carillonref08_Put.flat43 z43 (ap ▸ hC) aa c3 c2 1 _ rfl))) ?_
  refine .g (fun w hC => GRun.on rfl (x_lenS rfl (by kernel_rfl) ((hp.get 12 rfl rfl rfl)))) ?_
  iterate 3 refine .t ?_
  exact .nil
 clear hS
 intro b3 aT hS hp a4
 have hS := hS.cons (show sl _ 21 = .slice aj ac.length ai from hp.get 0 rfl rfl rfl)
 have hS := hS.cons (show sl _ 26 = .int .i64 ((rd_T43 ab aa).f0) from hp.get 5 rfl rfl rfl)
 have hS := hS.cons (show sl _ 34 = .int .i64 (((rd_T43 ab aa).f1).size : Int) from hp.get 13 rfl rfl rfl)
 clear hp
 show ListC _ _ _ _ [_, _, _, _, _] _ _
 refine lc_step rfl (R := fun v w' => Below _ _ w' ∧ (IsR (Kd.int .u8) 5 aT.heap.size ad) v w') (does_call (by kernel_rfl) (ar2 (hS.get 1 rfl) (rfl)) ((carillonref01_Put.calls k ((rd_T43 ab aa).f0) 2 ad _  bh).mono fun _ _ h => h.elim fun v0 h => ⟨v0, h.1, h.2.2, Kd.R_lower h.2.1 (bR aT).size⟩)) ?_
 rintro cq bQ ⟨hb, he⟩
 have aD := below_step a4.1 hb
 have aR := below_step a4.2.1 hb
 have bf := below_step (bR aT) hb
 obtain ⟨bG, bJ, rfl, ck, bo⟩ := Kd.R_reads he
 have co := he
 refine ⟨(Kd.C_below af aD), ?_⟩
 refine hS.nextC (v := .slice bG ad.length bJ) (d := 27) rfl (by decide) (by rfl) ?_
 clear hS
 intro b4 hS
 refine lc_step rfl (does_more (W := w) (.tmp 21) (.tmp 27) 36 5 1 rfl (by kernel_rfl) (by kernel_rfl) (by decide) _ ac ad _ _ (hS.get 3 rfl) (hS.get 0 rfl) (Kd.R_below a1 aR) (Kd.C_below bo (bR bQ)) aD c5) ?_
 rintro cr aU ⟨hb, hr, hk⟩
 clear hk
 have aE := hb
 replace hS := (((((hS.nil).cons (hS.get 7 rfl)).cons (hS.get 5 rfl)).cons (hS.get 4 rfl)).cons (hS.get 2 rfl)).cons (hS.get 1 rfl)
 obtain ⟨bH, bK, rfl, cl, ch⟩ := Kd.R_reads hr
 have br := hr
 clear hr
 refine ⟨(Kd.C_below af aE), ?_⟩
 refine hS.nextC (v := .slice bH ((ac ++ ad : List Int).length) bK) (d := 28) rfl (by decide) (by rfl) ?_
 clear hS
 intro b5 hS
 refine lc_step rfl (R := fun v w' => Below _ _ w' ∧ (IsR (Kd.int .u8) 5 aU.heap.size ae) v w') (does_call (by kernel_rfl) (ar2 (hS.get 1 rfl) (rfl)) ((carillonref01_Put.calls k (((rd_T43 ab aa).f1).size : Int) 2 ae _  bi).mono fun _ _ h => h.elim fun v0 h => ⟨v0, h.1, h.2.2, Kd.R_lower h.2.1 (bR aU).size⟩)) ?_
 rintro ct bS ⟨hb, he⟩
 have aF := below_step aE hb
 have aK := below_step (bR aU) hb
 obtain ⟨bI, bL, rfl, cm, bp⟩ := Kd.R_reads he
 have cp := he
 refine ⟨(Kd.C_below af aF), ?_⟩
 refine hS.nextC (v := .slice bI ae.length bL) (d := 35) rfl (by decide) (by rfl) ?_
 clear hS
 intro b6 hS
 refine lc_step rfl (does_more (W := w) (.tmp 28) (.tmp 35) 36 5 1 rfl (by kernel_rfl) (by kernel_rfl) (by decide) _ (ac ++ ad : List Int) ae _ _ (hS.get 1 rfl) (hS.get 0 rfl) (Kd.R_below br aK) (Kd.C_below bp (bR bS)) aF c6) ?_
 rintro cu bb ⟨hb, hr, hk⟩
 clear hk
 have aG := hb
 replace hS := (((((hS.nil).cons (hS.get 6 rfl)).cons (hS.get 5 rfl)).cons (hS.get 4 rfl)).cons (hS.get 3 rfl)).cons (hS.get 2 rfl)
 obtain ⟨au, av, rfl, cn, ci⟩ := Kd.R_reads hr
 have bs := hr
 clear hr
 refine ⟨(Kd.C_below af aG), ?_⟩
 refine hS.nextC (v := .slice au (((ac ++ ad : List Int) ++ ae : List Int).length) av) (d := 36) rfl (by decide) (by rfl) ?_
 clear hS
 intro b7 hS
 refine lc_step rfl (R := fun v w' => Below _ _ w' ∧ (IsV (.slice au (((ac ++ ad : List Int) ++ ae : List Int).length) av)) v w') (does_val (x_assign rfl (hS.get 0 rfl)) rfl) ?_
 rintro bB bc ⟨hb, he⟩
 have aH := below_step aG hb
 have aL := below_step (bR bb) hb
 obtain rfl : bB = .slice au (((ac ++ ad : List Int) ++ ae : List Int).length) av := he
 refine ⟨(Kd.C_below af aH), ?_⟩
 refine hS.nextC (v := .slice au (((ac ++ ad : List Int) ++ ae : List Int).length) av) (d := 4) rfl (by decide) (by rfl) ?_
 clear hS
 intro b8 hS
 refine lc_nil ?_
 refine aP _ _ ?_
 refine reg_seq_tail 6 (I := I3_ w bb bc) (ps := [IsV (.slice au (((ac ++ ad : List Int) ++ ae : List Int).length) av), IsV (.slice ag ab.length ah), VI aa, IsAT [.int .i64 ((rd_T43 ab aa).f0), .string ((rd_T43 ab aa).f1)], IsAT [.string ((rd_T43 ab aa).f1)], IsV (.string ((rd_T43 ab aa).f1))]) (by kernel_rfl) ?_ ?_ rfl hS ⟨aH, aL, (bR bc)⟩ ?_ ?_
 ·exact bs3
 ·exact .v (.v (.v (.cons (Stays.at_ _) (.cons (Stays.at_ _) (.v (.nil))))))
 ·refine .ms 0 rfl rfl rfl ?_
  refine .ms 5 rfl rfl rfl ?_
  refine .ms 6 rfl rfl rfl ?_
  refine .on rfl (fun a w hS hI hp => does_indexT carillonref08_Put.flat43 (e := 43) (xs := ab) (i := aa) z43 rfl (hp.V 1 rfl rfl) (hp.V 2 rfl rfl) (by kernel_rfl) (by kernel_rfl) c3 c2 c2 (by decide) ((Kd.C_below af hI.1))) ?_
  refine .on rfl (fun a w hS hI hp => does_fieldT (cs := [.int .i64 ((rd_T43 ab aa).f0), .string ((rd_T43 ab aa).f1)]) (off := 1) rfl (hp.V 3 rfl rfl) Try.underlying43 rfl rfl (by kernel_rfl) rfl) ?_
  refine .on rfl (fun a w hS hI hp => does_loadA (d := .string) rfl (hp.V 4 rfl rfl) (by kernel_rfl) rfl) ?_
  exact .nil
 clear hS
 intro b9 cz hS a5 hp
 replace hS := (((hS.nil).cons (hS.get 6 rfl)).cons (hS.get 5 rfl)).cons (hS.get 0 rfl)
 have bv : sl _ 37 = .slice au (((ac ++ ad : List Int) ++ ae : List Int).length) av := hp 0 (by decide)
 have bw : sl _ 42 = .string ((rd_T43 ab aa).f1) := hp 5 (by decide)
 have hS := hS.cons bv
 have hS := hS.cons bw
 clear hp bv bw
 show wpList _ _ _ [_, _] _ _
 refine list_step rfl (does_moreS (W := w) (.tmp 37) (.tmp 42) 36 9 5 rfl (by kernel_rfl) (by kernel_rfl) (by kernel_rfl) _ ((ac ++ ad : List Int) ++ ae : List Int) ((rd_T43 ab aa).f1) (hS.get 1 rfl) (hS.get 0 rfl) (Kd.R_below bs a5.2.1) (a5.1) c7) ?_
 rintro cv bd ⟨hb, hr, hk⟩
 clear hk
 have aX := hb
 replace hS := (((hS.nil).cons (hS.get 4 rfl)).cons (hS.get 3 rfl)).cons (hS.get 0 rfl)
 obtain ⟨aw, ax, rfl, bq, cj⟩ := Kd.R_reads hr
 have bt := hr
 clear hr
 refine hS.next (v := .slice aw ((((ac ++ ad : List Int) ++ ae : List Int) ++ bytesOf ((rd_T43 ab aa).f1) : List Int).length) ax) (d := 43) rfl (by decide) (by rfl) ?_
 clear hS
 intro ca hS
 refine list_step rfl (R := fun v w' => Below _ _ w' ∧ (IsV (.slice aw ((((ac ++ ad : List Int) ++ ae : List Int) ++ bytesOf ((rd_T43 ab aa).f1) : List Int).length) ax)) v w') (does_val (x_assign rfl (hS.get 0 rfl)) rfl) ?_
 rintro bC be ⟨hb, he⟩
 have aY := below_step aX hb
 have aM := below_step (bR bd) hb
 obtain rfl : bC = .slice aw ((((ac ++ ad : List Int) ++ ae : List Int) ++ bytesOf ((rd_T43 ab aa).f1) : List Int).length) ax := he
 refine hS.next (v := .slice aw ((((ac ++ ad : List Int) ++ ae : List Int) ++ bytesOf ((rd_T43 ab aa).f1) : List Int).length) ax) (d := 4) rfl (by decide) (by rfl) ?_
 clear hS
 intro cb hS
 refine wpList_nil ?_
 refine aA _ _ ?_
 refine reg_seq_tail 2 (I := I3_ w bd be) (ps := [VI aa, VI (wrap64 (aa + 1))]) (by kernel_rfl) ?_ ?_ rfl hS ⟨aY, aM, (bR be)⟩ ?_ ?_
 ·exact bs3
 ·exact .v (.v (.nil))
 ·refine .ms 4 rfl rfl rfl ?_
  refine .on rfl (fun a w hS hI hp => does_val (x_bin rfl (hp.V 0 rfl rfl) (rfl) (b_add _ _ _ _ _)) rfl) ?_
  exact .nil
 clear hS
 intro cc bU hS a6 hp
 replace hS := (((hS.nil).cons (hS.get 4 rfl)).cons (hS.get 3 rfl)).cons (hS.get 0 rfl)
 have bu : sl _ 14 = .int .i64 (wrap64 (aa + 1)) := hp 1 (by decide)
 have hS := hS.cons bu
 clear hp bu
 show wpList _ _ _ [_] _ _
 refine list_step rfl (R := fun v w' => Below _ _ w' ∧ (VI (wrap64 (aa + 1))) v w') (does_val (x_assign rfl (hS.get 0 rfl)) rfl) ?_
 rintro bD cA ⟨hb, he⟩
 have aZ := below_step a6.1 hb
 have aN := below_step a6.2.1 hb
 have bg := below_step (bR bU) hb
 obtain rfl : bD = .int .i64 (wrap64 (aa + 1)) := he
 replace hS := (((hS.nil).cons (hS.get 2 rfl)).cons (hS.get 1 rfl)).cons (hS.get 0 rfl)
 refine hS.next (v := .int .i64 (wrap64 (aa + 1))) (d := 5) rfl (by decide) (by rfl) ?_
 clear hS
 intro cd hS
 refine wpList_nil ?_
 replace hS := (((hS.nil).cons (hS.get 0 rfl)).cons (hS.get 2 rfl)).cons (hS.get 3 rfl)
 (try simp only [Exit.then, Exit.inBlock])
 exact ⟨n1, Nat.lt_succ_self _, ab, ag, ah, (((ac ++ ad : List Int) ++ ae : List Int) ++ bytesOf ((rd_T43 ab aa).f1) : List Int), aw, ax, wrap64 (aa + 1), H, hS, aZ, bP, (af), bq, (Kd.R_lower (Kd.R_below bt aN) (Nat.le_refl _))⟩
def carillonref04_May.f (a0_0 : Int) (a0_1 : Int) : Option (Bool) := if a0_1 ≥ 0 then (some (decide (a0_1 ≤ 65535))) else (some false)
set_option maxHeartbeats 8000000 in
set_option maxRecDepth 100000 in
theorem carillonref04_May.calls (a0_0 : Int) (a0_1 : Int) (r : Bool) (w : World) (h : carillonref04_May.f a0_0 a0_1 = some r) :
    Calls Try.prog 52 #[.agg #[.int .u64 a0_0, .int .i64 a0_1]] w fun e w' => e = .returned (.bool r) ∧ Below w.heap.size w w' := by
  have hu24 := Try.underlying24
  have HB := Aside0.mk (Below.refl w.heap.size w)
  have H : (if a0_1 ≥ 0 then (some (decide (a0_1 ≤ 65535))) else (some false)) = some r := h
  clear h
  by_cases c2 : a0_1 ≥ 0
  · rw [if_pos c2] at H
    have c2b0 : decide (0 ≤ a0_1) = true := decide_eq_true c2
    clear c2
    obtain rfl := Option.some.inj H
    go_enter Try.func52, Try.ntmps52
    go_wp2_with (first | ((with_reducible refine gate_dst (N := 1) rfl ?_); refine box_event ?hg (N := 1) ?hd (cs := #[.int .u64 a0_0, .int .i64 a0_1]) (t := 24) ?hr ?_; (case hd => rfl); (case hg => rfl); (case hr => first | (go_simp; done) | (go_simp; rfl)); intro gb159 hg w3 hbox hb; have n0_ := Aside0.mk (below_step (by repeat (first | (with_reducible first | exact HB.out | apply below_alloc | apply pw_below_drewN | apply below_drew1) | exact HB.out)) hb); have n1_ := Aside0.mk (hbox); have n2_ := Aside0.mk ((by rw [hg]; exact (below_size (by repeat (first | (with_reducible first | exact HB.out | apply below_alloc | apply pw_below_drewN | apply below_drew1) | exact HB.out))) : w.heap.size ≤ gb159)); have n3_ := Aside0.mk ((by rw [hg]; exact (below_size (by repeat (first | (with_reducible first | exact HB.out | apply below_alloc | apply pw_below_drewN | apply below_drew1) | exact HB.out))) : w.heap.size ≤ gb159)); clear HB; have HB := n0_; have BK159 := n1_; have GW159 := n2_; have GE159 := n3_; clear n0_ n1_ n2_ n3_; clear hb hbox hg; have hcz4_0 : w3.cell? ⟨gb159, 0, none⟩ = some (.int .u64 a0_0) := (blk_cell BK159.out 0).trans rfl; have hcz4_1 : w3.cell? ⟨gb159, 1, none⟩ = some (.int .i64 a0_1) := (blk_cell BK159.out 1).trans rfl; have hfz4_0 := blk_frozen BK159.out 0; have hfz4_1 := blk_frozen BK159.out 1))
    all_goals
      go_ret
      exact ⟨by first | rfl | (simp [errW_none, errW_some] <;> rfl) | (simp [*, errW_none, errW_some] <;> rfl), by repeat (first | (with_reducible first | exact HB.out | apply below_alloc | apply pw_below_drewN | apply below_drew1 | refine below_set ?_ GE159.out) | exact HB.out)⟩
  · rw [if_neg c2] at H
    have c2b0 : decide (0 ≤ a0_1) = false := decide_eq_false c2
    clear c2
    obtain rfl := Option.some.inj H
    go_enter Try.func52, Try.ntmps52
    go_wp2_with (first | ((with_reducible refine gate_dst (N := 1) rfl ?_); refine box_event ?hg (N := 1) ?hd (cs := #[.int .u64 a0_0, .int .i64 a0_1]) (t := 24) ?hr ?_; (case hd => rfl); (case hg => rfl); (case hr => first | (go_simp; done) | (go_simp; rfl)); intro gb159 hg w5 hbox hb; have n0_ := Aside0.mk (below_step (by repeat (first | (with_reducible first | exact HB.out | apply below_alloc | apply pw_below_drewN | apply below_drew1) | exact HB.out)) hb); have n1_ := Aside0.mk (hbox); have n2_ := Aside0.mk ((by rw [hg]; exact (below_size (by repeat (first | (with_reducible first | exact HB.out | apply below_alloc | apply pw_below_drewN | apply below_drew1) | exact HB.out))) : w.heap.size ≤ gb159)); have n3_ := Aside0.mk ((by rw [hg]; exact (below_size (by repeat (first | (with_reducible first | exact HB.out | apply below_alloc | apply pw_below_drewN | apply below_drew1) | exact HB.out))) : w.heap.size ≤ gb159)); clear HB; have HB := n0_; have BK159 := n1_; have GW159 := n2_; have GE159 := n3_; clear n0_ n1_ n2_ n3_; clear hb hbox hg; have hcz6_0 : w5.cell? ⟨gb159, 0, none⟩ = some (.int .u64 a0_0) := (blk_cell BK159.out 0).trans rfl; have hcz6_1 : w5.cell? ⟨gb159, 1, none⟩ = some (.int .i64 a0_1) := (blk_cell BK159.out 1).trans rfl; have hfz6_0 := blk_frozen BK159.out 0; have hfz6_1 := blk_frozen BK159.out 1))
    all_goals
      go_ret
      exact ⟨by first | rfl | (simp [errW_none, errW_some] <;> rfl) | (simp [*, errW_none, errW_some] <;> rfl), by repeat (first | (with_reducible first | exact HB.out | apply below_alloc | apply pw_below_drewN | apply below_drew1 | refine below_set ?_ GE159.out) | exact HB.out)⟩
def carillonref05_In.f (a0 : Int) (a1 : Int) (a2 : Int) : Option (Bool) := if a0 ≥ a1 then (some (decide (a0 ≤ a2))) else (some false)
set_option maxHeartbeats 8000000 in
set_option maxRecDepth 100000 in
theorem carillonref05_In.calls (a0 : Int) (a1 : Int) (a2 : Int) (r : Bool) (w : World) (h : carillonref05_In.f a0 a1 a2 = some r) :
    Calls Try.prog 53 #[.int .i64 a0, .int .i64 a1, .int .i64 a2] w fun e w' => e = .returned (.bool r) ∧ Drawn0 w w' := by
  have H : (if a0 ≥ a1 then (some (decide (a0 ≤ a2))) else (some false)) = some r := h
  clear h
  by_cases c4 : a0 ≥ a1
  · rw [if_pos c4] at H
    have c4b0 : decide (a1 ≤ a0) = true := decide_eq_true c4
    clear c4
    obtain rfl := Option.some.inj H
    go_enter Try.func53, Try.ntmps53
    go_wp2
    all_goals
      go_ret
      exact ⟨by first | rfl | (simp; done) | (simp [*]; done), by repeat (first | exact Drawn0.refl _ | apply Drawn0.step)⟩
  · rw [if_neg c4] at H
    have c4b0 : decide (a1 ≤ a0) = false := decide_eq_false c4
    clear c4
    obtain rfl := Option.some.inj H
    go_enter Try.func53, Try.ntmps53
    go_wp2
    all_goals
      go_ret
      exact ⟨by first | rfl | (simp; done) | (simp [*]; done), by repeat (first | exact Drawn0.refl _ | apply Drawn0.step)⟩
def carillonref06_Known.f (a0 : Int) : Option (Bool) := if a0 ≥ 0 then (if a0 ≤ 3 then (some true) else (if a0 ≥ 8 then (some (decide (a0 ≤ 13))) else (some false))) else (if a0 ≥ 8 then (some (decide (a0 ≤ 13))) else (some false))
set_option maxHeartbeats 8000000 in
set_option maxRecDepth 100000 in
theorem carillonref06_Known.calls (a0 : Int) (r : Bool) (w : World) (h : carillonref06_Known.f a0 = some r) :
    Calls Try.prog 68 #[.int .i64 a0] w fun e w' => e = .returned (.bool r) ∧ Drawn0 w w' := by
  have H : (if a0 ≥ 0 then (if a0 ≤ 3 then (some true) else (if a0 ≥ 8 then (some (decide (a0 ≤ 13))) else (some false))) else (if a0 ≥ 8 then (some (decide (a0 ≤ 13))) else (some false))) = some r := h
  clear h
  by_cases c2 : a0 ≥ 0
  · rw [if_pos c2] at H
    have c2b0 : decide (0 ≤ a0) = true := decide_eq_true c2
    clear c2
    by_cases c3 : a0 ≤ 3
    · rw [if_pos c3] at H
      have c3b0 : decide (a0 ≤ 3) = true := decide_eq_true c3
      clear c3
      obtain rfl := Option.some.inj H
      go_enter Try.func68, Try.ntmps68
      go_wp2
      all_goals
        go_ret
        exact ⟨by first | rfl | (simp; done) | (simp [*]; done), by repeat (first | exact Drawn0.refl _ | apply Drawn0.step)⟩
    · rw [if_neg c3] at H
      have c3b0 : decide (a0 ≤ 3) = false := decide_eq_false c3
      clear c3
      by_cases c4 : a0 ≥ 8
      · rw [if_pos c4] at H
        have c4b0 : decide (8 ≤ a0) = true := decide_eq_true c4
        clear c4
        obtain rfl := Option.some.inj H
        go_enter Try.func68, Try.ntmps68
        go_wp2
        all_goals
          go_ret
          exact ⟨by first | rfl | (simp; done) | (simp [*]; done), by repeat (first | exact Drawn0.refl _ | apply Drawn0.step)⟩
      · rw [if_neg c4] at H
        have c4b0 : decide (8 ≤ a0) = false := decide_eq_false c4
        clear c4
        obtain rfl := Option.some.inj H
        go_enter Try.func68, Try.ntmps68
        go_wp2
        all_goals
          go_ret
          exact ⟨by first | rfl | (simp; done) | (simp [*]; done), by repeat (first | exact Drawn0.refl _ | apply Drawn0.step)⟩
  · rw [if_neg c2] at H
    have c2b0 : decide (0 ≤ a0) = false := decide_eq_false c2
    clear c2
    by_cases c5 : a0 ≥ 8
    · rw [if_pos c5] at H
      have c5b0 : decide (8 ≤ a0) = true := decide_eq_true c5
      clear c5
      obtain rfl := Option.some.inj H
      go_enter Try.func68, Try.ntmps68
      go_wp2
      all_goals
        go_ret
        exact ⟨by first | rfl | (simp; done) | (simp [*]; done), by repeat (first | exact Drawn0.refl _ | apply Drawn0.step)⟩
    · rw [if_neg c5] at H
      have c5b0 : decide (8 ≤ a0) = false := decide_eq_false c5
      clear c5
      obtain rfl := Option.some.inj H
      go_enter Try.func68, Try.ntmps68
      go_wp2
      all_goals
        go_ret
        exact ⟨by first | rfl | (simp; done) | (simp [*]; done), by repeat (first | exact Drawn0.refl _ | apply Drawn0.step)⟩
def carillonref06_Check.f (a0_0 a0_1 a0_2 a0_3 a0_4 a0_5 a0_6 a0_7 a0_8 a0_9 a0_10 a0_11 a0_12 a0_13 a0_14 a0_15 a0_16 a0_17 a0_18 a0_19 a0_20 a0_21 a0_22 : Int) : Option (Bool) := (carillonref06_Known.f a0_0).bind fun t6 => (if t6 = true then ((carillonref05_In.f a0_1 0 255).bind fun t7 => (if t7 = true then ((carillonref05_In.f a0_2 0 65535).bind fun t8 => (if t8 = true then ((carillonref04_May.f a0_4 a0_5).bind fun t9 => (if t9 = true then ((carillonref05_In.f a0_6 0 65535).bind fun t10 => (if t10 = true then ((carillonref05_In.f a0_7 (-128) 127).bind fun t11 => (some t11)) else (some false))) else (some false))) else (some false))) else (some false))) else (some false))
abbrev carillonref06_Check.v0 (x0 x1 x2 x3 x4 x5 x6 x7 x8 x9 x10 x11 x12 x13 x14 x15 x16 x17 x18 x19 x20 x21 x22 : Int) : Value := .agg #[.int .i64 x0, .int .i64 x1, .int .i64 x2, .int .i64 x3, .int .u64 x4, .int .i64 x5, .int .i64 x6, .int .i64 x7, .int .i64 x8, .int .u64 x9, .int .i64 x10, .int .i64 x11, .int .i64 x12, .int .i64 x13, .int .i64 x14, .int .i64 x15, .int .i64 x16, .int .u64 x17, .int .i64 x18, .int .i64 x19, .int .i64 x20, .int .i64 x21, .int .i64 x22]
abbrev carillonref06_Check.c1 (x0 x1 x2 x3 x4 x5 x6 x7 x8 x9 x10 x11 x12 x13 x14 x15 x16 x17 x18 x19 x20 x21 x22 : Int) : Array Value := #[.int .i64 x0, .int .i64 x1, .int .i64 x2, .int .i64 x3, .int .u64 x4, .int .i64 x5, .int .i64 x6, .int .i64 x7, .int .i64 x8, .int .u64 x9, .int .i64 x10, .int .i64 x11, .int .i64 x12, .int .i64 x13, .int .i64 x14, .int .i64 x15, .int .i64 x16, .int .u64 x17, .int .i64 x18, .int .i64 x19, .int .i64 x20, .int .i64 x21, .int .i64 x22]
open Go.Proofs.Ytiomlbkakiienaa.E in
set_option maxHeartbeats 60000000 in
set_option maxRecDepth 100000 in
theorem carillonref06_Check.calls (ab ac af ax ad ae av aw ay az ag ah ai aj ak al am an ao ap aq ar au : Int) (r : Bool) (w : World) (h : carillonref06_Check.f ab ac af ax ad ae av aw ay az ag ah ai aj ak al am an ao ap aq ar au = some r) :
    Calls Try.prog 48 #[.agg #[.int .i64 ab, .int .i64 ac, .int .i64 af, .int .i64 ax, .int .u64 ad, .int .i64 ae, .int .i64 av, .int .i64 aw, .int .i64 ay, .int .u64 az, .int .i64 ag, .int .i64 ah, .int .i64 ai, .int .i64 aj, .int .i64 ak, .int .i64 al, .int .i64 am, .int .u64 an, .int .i64 ao, .int .i64 ap, .int .i64 aq, .int .i64 ar, .int .i64 au]] w fun e w' => e = .returned (.bool r) ∧ Below w.heap.size w w' := by
 have H := h
 clear h
 unfold carillonref06_Check.f at H
 obtain ⟨t6, aI, H⟩ := Option.bind_eq_some_iff.mp H
 by_cases c1 : t6 = true
 rotate_left
 ·rw [if_neg c1] at H
  obtain rfl := Option.some.inj H
  refine calls_of_wp (fn := Try.f48) (by kernel_rfl) rfl ?_
  have hS := St.enter #[(carillonref06_Check.v0 ab ac af ax ad ae av aw ay az ag ah ai aj ak al am an ao ap aq ar au)] 31 (by simp) [(0, (carillonref06_Check.v0 ab ac af ax ad ae av aw ay az ag ah ai aj ak al am an ao ap aq ar au))] (by simp)
  have aC := Below.refl w.heap.size w
  refine wp_seq_k (fun K1 aD => ?_)
  refine reg_seq (I := I1_ w) (ps := [IsB (carillonref06_Check.c1 ab ac af ax ad ae av aw ay az ag ah ai aj ak al am an ao ap aq ar au) 28 w.heap.size, VB false]) (by kernel_rfl) ?_ ?_ rfl hS aC ?_ ?_
  ·exact bs1
  ·exact .cons (Stays.b _ _ _) (.v (.nil))
  ·refine .on rfl (fun a w hS hI hp => does_var (x_box rfl (congrArg Value.cells (hS.get 0 rfl))) (hI).size) ?_
   refine .on rfl (fun a w hS hI hp => does_val (x_assign rfl (rfl)) rfl) ?_
   exact .nil
  clear hS
  intro aL w3 hS aF hp
  replace hS := hS.nil
  obtain ⟨g4, aA, aG, aa⟩ := (show IsB _ 28 _ (sl _ 1) _ from hp 0 (by decide))
  have hS := hS.cons aA
  clear hp aA
  refine aD _ _ ?_
  refine wp_seq_k (fun K5 aE => ?_)
  refine reg_seq (I := I2_ w w3) (ps := [VP g4 0, VI ab, VB t6, VB t6, VU, VU, VU, VB false, VB false, VU, VU, VU, VB false, VB false, VU, VU, VU, VB false, VB false, VU, VU, VU, VB false, VB false, VU, VU, VU, VB false, VB false]) (by kernel_rfl) ?_ ?_ rfl hS ⟨aF, (bR w3)⟩ ?_ ?_
  ·exact bs2
  ·exact .v (.v (.v (.v (.v (.v (.v (.v (.v (.v (.v (.v (.v (.v (.v (.v (.v (.v (.v (.v (.v (.v (.v (.v (.v (.v (.v (.v (.v (.nil)))))))))))))))))))))))))))))
  ·refine .on rfl (fun a w hS hI hp => does_val (x_fieldE (b := 0) rfl (hS.get 0 rfl) Try.underlying28 rfl rfl (by kernel_rfl)) rfl) ?_
   refine .on rfl (fun a w hS hI hp => does_val (x_load1 (d := .int .i64) rfl (hp.V 0 rfl rfl) (by kernel_rfl) rfl ((blk_cell (((hI.2).block g4 (blk_lt aa)).trans aa) 0).trans rfl)) rfl) ?_
   refine .on rfl (fun a w hS hI hp => does_call (by kernel_rfl) (ar1 (hp.V 1 rfl rfl)) ((carillonref06_Known.calls ab t6 _  aI).mono fun _ _ h => ⟨_, h.1, h.2.below, rfl⟩)) ?_
   refine .mv 2 rfl rfl rfl ?_
   iterate 3 refine .sn 3 6 rfl rfl ((Bool.eq_false_iff.2 c1)) ?_
   refine .pf 3 rfl rfl rfl ((Bool.eq_false_iff.2 c1)) (fun _ => rfl) ?_
   refine .mv 7 rfl rfl rfl ?_
   iterate 3 refine .sn 8 11 rfl rfl rfl ?_
   refine .pf 8 rfl rfl rfl rfl (fun _ => rfl) ?_
   refine .mv 12 rfl rfl rfl ?_
   iterate 3 refine .sn 13 16 rfl rfl rfl ?_
   refine .pf 13 rfl rfl rfl rfl (fun _ => rfl) ?_
   refine .mv 17 rfl rfl rfl ?_
   iterate 3 refine .sn 18 21 rfl rfl rfl ?_
   refine .pf 18 rfl rfl rfl rfl (fun _ => rfl) ?_
   refine .mv 22 rfl rfl rfl ?_
   iterate 3 refine .sn 23 26 rfl rfl rfl ?_
   refine .pf 23 rfl rfl rfl rfl (fun _ => rfl) ?_
   refine .asg 27 rfl rfl rfl ?_
   exact .nil
  clear hS
  intro aZ w8 hS aU hp
  replace hS := hS.nil
  have aB : sl _ 2 = .bool false := hp 28 (by decide)
  have hS := hS.cons aB
  clear hp aB
  refine aE _ _ ?_
  refine wp_ret ?_
  (try simp only [Exit.then, Exit.inBlock, Exit.jump, Exit.noGoto])
  exact bodyPost_ret (v := .bool false) (results_single rfl (Vals.at (hS.get 0 rfl) .nil)) hS.nodef ⟨rfl, aU.1⟩
 rw [if_pos c1] at H
 obtain ⟨t7, aK, H⟩ := Option.bind_eq_some_iff.mp H
 by_cases c2 : t7 = true
 rotate_left
 ·rw [if_neg c2] at H
  obtain rfl := Option.some.inj H
  refine calls_of_wp (fn := Try.f48) (by kernel_rfl) rfl ?_
  have hS := St.enter #[(carillonref06_Check.v0 ab ac af ax ad ae av aw ay az ag ah ai aj ak al am an ao ap aq ar au)] 31 (by simp) [(0, (carillonref06_Check.v0 ab ac af ax ad ae av aw ay az ag ah ai aj ak al am an ao ap aq ar au))] (by simp)
  have aC := Below.refl w.heap.size w
  refine wp_seq_k (fun K1 aD => ?_)
  refine reg_seq (I := I1_ w) (ps := [IsB (carillonref06_Check.c1 ab ac af ax ad ae av aw ay az ag ah ai aj ak al am an ao ap aq ar au) 28 w.heap.size, VB false]) (by kernel_rfl) ?_ ?_ rfl hS aC ?_ ?_
  ·exact bs1
  ·exact .cons (Stays.b _ _ _) (.v (.nil))
  ·refine .on rfl (fun a w hS hI hp => does_var (x_box rfl (congrArg Value.cells (hS.get 0 rfl))) (hI).size) ?_
   refine .on rfl (fun a w hS hI hp => does_val (x_assign rfl (rfl)) rfl) ?_
   exact .nil
  clear hS
  intro aL w3 hS aF hp
  replace hS := hS.nil
  obtain ⟨g4, aA, aG, aa⟩ := (show IsB _ 28 _ (sl _ 1) _ from hp 0 (by decide))
  have hS := hS.cons aA
  clear hp aA
  refine aD _ _ ?_
  refine wp_seq_k (fun K5 aE => ?_)
  refine reg_seq (I := I2_ w w3) (ps := [VP g4 0, VI ab, VB t6, VB t6, VP g4 1, VI ac, VB t7, VB t7, VB t7, VU, VU, VU, VB false, VB false, VU, VU, VU, VB false, VB false, VU, VU, VU, VB false, VB false, VU, VU, VU, VB false, VB false]) (by kernel_rfl) ?_ ?_ rfl hS ⟨aF, (bR w3)⟩ ?_ ?_
  ·exact bs2
  ·exact .v (.v (.v (.v (.v (.v (.v (.v (.v (.v (.v (.v (.v (.v (.v (.v (.v (.v (.v (.v (.v (.v (.v (.v (.v (.v (.v (.v (.v (.nil)))))))))))))))))))))))))))))
  ·refine .on rfl (fun a w hS hI hp => does_val (x_fieldE (b := 0) rfl (hS.get 0 rfl) Try.underlying28 rfl rfl (by kernel_rfl)) rfl) ?_
   refine .on rfl (fun a w hS hI hp => does_val (x_load1 (d := .int .i64) rfl (hp.V 0 rfl rfl) (by kernel_rfl) rfl ((blk_cell (((hI.2).block g4 (blk_lt aa)).trans aa) 0).trans rfl)) rfl) ?_
   refine .on rfl (fun a w hS hI hp => does_call (by kernel_rfl) (ar1 (hp.V 1 rfl rfl)) ((carillonref06_Known.calls ab t6 _  aI).mono fun _ _ h => ⟨_, h.1, h.2.below, rfl⟩)) ?_
   refine .mv 2 rfl rfl rfl ?_
   refine .oy 3 6 rfl rfl c1 (fun a w hS hI hp => does_val (x_fieldE (b := 0) rfl (hS.get 0 rfl) Try.underlying28 rfl rfl (by kernel_rfl)) rfl) ?_
   refine .oy 3 6 rfl rfl c1 (fun a w hS hI hp => does_val (x_load1 (d := .int .i64) rfl (hp.V 4 rfl rfl) (by kernel_rfl) rfl ((blk_cell (((hI.2).block g4 (blk_lt aa)).trans aa) 1).trans rfl)) rfl) ?_
   refine .oy 3 6 rfl rfl c1 (fun a w hS hI hp => does_call (by kernel_rfl) (ar3 (hp.V 5 rfl rfl) (rfl) (rfl)) ((carillonref05_In.calls ac 0 255 t7 _  aK).mono fun _ _ h => ⟨_, h.1, h.2.below, rfl⟩)) ?_
   refine .pt 3 6 rfl rfl rfl c1 rfl ?_
   refine .mv 7 rfl rfl rfl ?_
   iterate 3 refine .sn 8 11 rfl rfl ((Bool.eq_false_iff.2 c2)) ?_
   refine .pf 8 rfl rfl rfl ((Bool.eq_false_iff.2 c2)) (fun _ => rfl) ?_
   refine .mv 12 rfl rfl rfl ?_
   iterate 3 refine .sn 13 16 rfl rfl rfl ?_
   refine .pf 13 rfl rfl rfl rfl (fun _ => rfl) ?_
   refine .mv 17 rfl rfl rfl ?_
   iterate 3 refine .sn 18 21 rfl rfl rfl ?_
   refine .pf 18 rfl rfl rfl rfl (fun _ => rfl) ?_
   refine .mv 22 rfl rfl rfl ?_
   iterate 3 refine .sn 23 26 rfl rfl rfl ?_
   refine .pf 23 rfl rfl rfl rfl (fun _ => rfl) ?_
   refine .asg 27 rfl rfl rfl ?_
   exact .nil
  clear hS
  intro a0 w9 hS aV hp
  replace hS := hS.nil
  have aB : sl _ 2 = .bool false := hp 28 (by decide)
  have hS := hS.cons aB
  clear hp aB
  refine aE _ _ ?_
  refine wp_ret ?_
  (try simp only [Exit.then, Exit.inBlock, Exit.jump, Exit.noGoto])
  exact bodyPost_ret (v := .bool false) (results_single rfl (Vals.at (hS.get 0 rfl) .nil)) hS.nodef ⟨rfl, aV.1⟩
 rw [if_pos c2] at H
 obtain ⟨t8, aM, H⟩ := Option.bind_eq_some_iff.mp H
 by_cases c3 : t8 = true
 rotate_left
 ·rw [if_neg c3] at H
  obtain rfl := Option.some.inj H
  refine calls_of_wp (fn := Try.f48) (by kernel_rfl) rfl ?_
  have hS := St.enter #[(carillonref06_Check.v0 ab ac af ax ad ae av aw ay az ag ah ai aj ak al am an ao ap aq ar au)] 31 (by simp) [(0, (carillonref06_Check.v0 ab ac af ax ad ae av aw ay az ag ah ai aj ak al am an ao ap aq ar au))] (by simp)
  have aC := Below.refl w.heap.size w
  refine wp_seq_k (fun K1 aD => ?_)
  refine reg_seq (I := I1_ w) (ps := [IsB (carillonref06_Check.c1 ab ac af ax ad ae av aw ay az ag ah ai aj ak al am an ao ap aq ar au) 28 w.heap.size, VB false]) (by kernel_rfl) ?_ ?_ rfl hS aC ?_ ?_
  ·exact bs1
  ·exact .cons (Stays.b _ _ _) (.v (.nil))
  ·refine .on rfl (fun a w hS hI hp => does_var (x_box rfl (congrArg Value.cells (hS.get 0 rfl))) (hI).size) ?_
   refine .on rfl (fun a w hS hI hp => does_val (x_assign rfl (rfl)) rfl) ?_
   exact .nil
  clear hS
  intro aL w3 hS aF hp
  replace hS := hS.nil
  obtain ⟨g4, aA, aG, aa⟩ := (show IsB _ 28 _ (sl _ 1) _ from hp 0 (by decide))
  have hS := hS.cons aA
  clear hp aA
  refine aD _ _ ?_
  refine wp_seq_k (fun K5 aE => ?_)
  refine reg_seq (I := I2_ w w3) (ps := [VP g4 0, VI ab, VB t6, VB t6, VP g4 1, VI ac, VB t7, VB t7, VB t7, VP g4 2, VI af, VB t8, VB t8, VB t8, VU, VU, VU, VB false, VB false, VU, VU, VU, VB false, VB false, VU, VU, VU, VB false, VB false]) (by kernel_rfl) ?_ ?_ rfl hS ⟨aF, (bR w3)⟩ ?_ ?_
  ·exact bs2
  ·exact .v (.v (.v (.v (.v (.v (.v (.v (.v (.v (.v (.v (.v (.v (.v (.v (.v (.v (.v (.v (.v (.v (.v (.v (.v (.v (.v (.v (.v (.nil)))))))))))))))))))))))))))))
  ·refine .on rfl (fun a w hS hI hp => does_val (x_fieldE (b := 0) rfl (hS.get 0 rfl) Try.underlying28 rfl rfl (by kernel_rfl)) rfl) ?_
   refine .on rfl (fun a w hS hI hp => does_val (x_load1 (d := .int .i64) rfl (hp.V 0 rfl rfl) (by kernel_rfl) rfl ((blk_cell (((hI.2).block g4 (blk_lt aa)).trans aa) 0).trans rfl)) rfl) ?_
   refine .on rfl (fun a w hS hI hp => does_call (by kernel_rfl) (ar1 (hp.V 1 rfl rfl)) ((carillonref06_Known.calls ab t6 _  aI).mono fun _ _ h => ⟨_, h.1, h.2.below, rfl⟩)) ?_
   refine .mv 2 rfl rfl rfl ?_
   refine .oy 3 6 rfl rfl c1 (fun a w hS hI hp => does_val (x_fieldE (b := 0) rfl (hS.get 0 rfl) Try.underlying28 rfl rfl (by kernel_rfl)) rfl) ?_
   refine .oy 3 6 rfl rfl c1 (fun a w hS hI hp => does_val (x_load1 (d := .int .i64) rfl (hp.V 4 rfl rfl) (by kernel_rfl) rfl ((blk_cell (((hI.2).block g4 (blk_lt aa)).trans aa) 1).trans rfl)) rfl) ?_
   refine .oy 3 6 rfl rfl c1 (fun a w hS hI hp => does_call (by kernel_rfl) (ar3 (hp.V 5 rfl rfl) (rfl) (rfl)) ((carillonref05_In.calls ac 0 255 t7 _  aK).mono fun _ _ h => ⟨_, h.1, h.2.below, rfl⟩)) ?_
   refine .pt 3 6 rfl rfl rfl c1 rfl ?_
   refine .mv 7 rfl rfl rfl ?_
   refine .oy 8 11 rfl rfl c2 (fun a w hS hI hp => does_val (x_fieldE (b := 0) rfl (hS.get 0 rfl) Try.underlying28 rfl rfl (by kernel_rfl)) rfl) ?_
   refine .oy 8 11 rfl rfl c2 (fun a w hS hI hp => does_val (x_load1 (d := .int .i64) rfl (hp.V 9 rfl rfl) (by kernel_rfl) rfl ((blk_cell (((hI.2).block g4 (blk_lt aa)).trans aa) 2).trans rfl)) rfl) ?_
   refine .oy 8 11 rfl rfl c2 (fun a w hS hI hp => does_call (by kernel_rfl) (ar3 (hp.V 10 rfl rfl) (rfl) (rfl)) ((carillonref05_In.calls af 0 65535 t8 _  aM).mono fun _ _ h => ⟨_, h.1, h.2.below, rfl⟩)) ?_
   refine .pt 8 11 rfl rfl rfl c2 rfl ?_
   refine .mv 12 rfl rfl rfl ?_
   iterate 3 refine .sn 13 16 rfl rfl ((Bool.eq_false_iff.2 c3)) ?_
   refine .pf 13 rfl rfl rfl ((Bool.eq_false_iff.2 c3)) (fun _ => rfl) ?_
   refine .mv 17 rfl rfl rfl ?_
   iterate 3 refine .sn 18 21 rfl rfl rfl ?_
   refine .pf 18 rfl rfl rfl rfl (fun _ => rfl) ?_
   refine .mv 22 rfl rfl rfl ?_
   iterate 3 refine .sn 23 26 rfl rfl rfl ?_
   refine .pf 23 rfl rfl rfl rfl (fun _ => rfl) ?_
   refine .asg 27 rfl rfl rfl ?_
   exact .nil
  clear hS
  intro a1 a2 hS aQ hp
  replace hS := hS.nil
  have aB : sl _ 2 = .bool false := hp 28 (by decide)
  have hS := hS.cons aB
  clear hp aB
  refine aE _ _ ?_
  refine wp_ret ?_
  (try simp only [Exit.then, Exit.inBlock, Exit.jump, Exit.noGoto])
  exact bodyPost_ret (v := .bool false) (results_single rfl (Vals.at (hS.get 0 rfl) .nil)) hS.nodef ⟨rfl, aQ.1⟩
 rw [if_pos c3] at H
 obtain ⟨t9, aO, H⟩ := Option.bind_eq_some_iff.mp H
 by_cases c4 : t9 = true
 rotate_left
 ·rw [if_neg c4] at H
  obtain rfl := Option.some.inj H
  refine calls_of_wp (fn := Try.f48) (by kernel_rfl) rfl ?_
  have hS := St.enter #[(carillonref06_Check.v0 ab ac af ax ad ae av aw ay az ag ah ai aj ak al am an ao ap aq ar au)] 31 (by simp) [(0, (carillonref06_Check.v0 ab ac af ax ad ae av aw ay az ag ah ai aj ak al am an ao ap aq ar au))] (by simp)
  have aC := Below.refl w.heap.size w
  refine wp_seq_k (fun K1 aD => ?_)
  refine reg_seq (I := I1_ w) (ps := [IsB (carillonref06_Check.c1 ab ac af ax ad ae av aw ay az ag ah ai aj ak al am an ao ap aq ar au) 28 w.heap.size, VB false]) (by kernel_rfl) ?_ ?_ rfl hS aC ?_ ?_
  ·exact bs1
  ·exact .cons (Stays.b _ _ _) (.v (.nil))
  ·refine .on rfl (fun a w hS hI hp => does_var (x_box rfl (congrArg Value.cells (hS.get 0 rfl))) (hI).size) ?_
   refine .on rfl (fun a w hS hI hp => does_val (x_assign rfl (rfl)) rfl) ?_
   exact .nil
  clear hS
  intro aL w3 hS aF hp
  replace hS := hS.nil
  obtain ⟨g4, aA, aG, aa⟩ := (show IsB _ 28 _ (sl _ 1) _ from hp 0 (by decide))
  have hS := hS.cons aA
  clear hp aA
  refine aD _ _ ?_
  refine wp_seq_k (fun K5 aE => ?_)
  refine reg_seq (I := I2_ w w3) (ps := [VP g4 0, VI ab, VB t6, VB t6, VP g4 1, VI ac, VB t7, VB t7, VB t7, VP g4 2, VI af, VB t8, VB t8, VB t8, VP g4 4, IsV (.agg #[.int .u64 ad, .int .i64 ae]), VB t9, VB t9, VB t9, VU, VU, VU, VB false, VB false, VU, VU, VU, VB false, VB false]) (by kernel_rfl) ?_ ?_ rfl hS ⟨aF, (bR w3)⟩ ?_ ?_
  ·exact bs2
  ·exact .v (.v (.v (.v (.v (.v (.v (.v (.v (.v (.v (.v (.v (.v (.v (.v (.v (.v (.v (.v (.v (.v (.v (.v (.v (.v (.v (.v (.v (.nil)))))))))))))))))))))))))))))
  ·refine .on rfl (fun a w hS hI hp => does_val (x_fieldE (b := 0) rfl (hS.get 0 rfl) Try.underlying28 rfl rfl (by kernel_rfl)) rfl) ?_
   refine .on rfl (fun a w hS hI hp => does_val (x_load1 (d := .int .i64) rfl (hp.V 0 rfl rfl) (by kernel_rfl) rfl ((blk_cell (((hI.2).block g4 (blk_lt aa)).trans aa) 0).trans rfl)) rfl) ?_
   refine .on rfl (fun a w hS hI hp => does_call (by kernel_rfl) (ar1 (hp.V 1 rfl rfl)) ((carillonref06_Known.calls ab t6 _  aI).mono fun _ _ h => ⟨_, h.1, h.2.below, rfl⟩)) ?_
   refine .mv 2 rfl rfl rfl ?_
   refine .oy 3 6 rfl rfl c1 (fun a w hS hI hp => does_val (x_fieldE (b := 0) rfl (hS.get 0 rfl) Try.underlying28 rfl rfl (by kernel_rfl)) rfl) ?_
   refine .oy 3 6 rfl rfl c1 (fun a w hS hI hp => does_val (x_load1 (d := .int .i64) rfl (hp.V 4 rfl rfl) (by kernel_rfl) rfl ((blk_cell (((hI.2).block g4 (blk_lt aa)).trans aa) 1).trans rfl)) rfl) ?_
   refine .oy 3 6 rfl rfl c1 (fun a w hS hI hp => does_call (by kernel_rfl) (ar3 (hp.V 5 rfl rfl) (rfl) (rfl)) ((carillonref05_In.calls ac 0 255 t7 _  aK).mono fun _ _ h => ⟨_, h.1, h.2.below, rfl⟩)) ?_
   refine .pt 3 6 rfl rfl rfl c1 rfl ?_
   refine .mv 7 rfl rfl rfl ?_
   refine .oy 8 11 rfl rfl c2 (fun a w hS hI hp => does_val (x_fieldE (b := 0) rfl (hS.get 0 rfl) Try.underlying28 rfl rfl (by kernel_rfl)) rfl) ?_
   refine .oy 8 11 rfl rfl c2 (fun a w hS hI hp => does_val (x_load1 (d := .int .i64) rfl (hp.V 9 rfl rfl) (by kernel_rfl) rfl ((blk_cell (((hI.2).block g4 (blk_lt aa)).trans aa) 2).trans rfl)) rfl) ?_
   refine .oy 8 11 rfl rfl c2 (fun a w hS hI hp => does_call (by kernel_rfl) (ar3 (hp.V 10 rfl rfl) (rfl) (rfl)) ((carillonref05_In.calls af 0 65535 t8 _  aM).mono fun _ _ h => ⟨_, h.1, h.2.below, rfl⟩)) ?_
   refine .pt 8 11 rfl rfl rfl c2 rfl ?_
   refine .mv 12 rfl rfl rfl ?_
   refine .oy 13 16 rfl rfl c3 (fun a w hS hI hp => does_val (x_fieldE (b := 0) rfl (hS.get 0 rfl) Try.underlying28 rfl rfl (by kernel_rfl)) rfl) ?_
   refine .oy 13 16 rfl rfl c3 (fun a w hS hI hp => does_loadmid (cs := [.int .u64 ad, .int .i64 ae]) rfl (hp.V 14 rfl rfl) (((hI.2).block g4 (blk_lt aa)).trans aa) (by kernel_rfl) Try.underlying24 rfl (by kernel_rfl) rfl) ?_
   refine .oy 13 16 rfl rfl c3 (fun a w hS hI hp => does_call (by kernel_rfl) (ar1 (hp.V 15 rfl rfl)) ((carillonref04_May.calls ad ae t9 _  aO).mono fun _ _ h => ⟨_, h.1, h.2, rfl⟩)) ?_
   refine .pt 13 16 rfl rfl rfl c3 rfl ?_
   refine .mv 17 rfl rfl rfl ?_
   iterate 3 refine .sn 18 21 rfl rfl ((Bool.eq_false_iff.2 c4)) ?_
   refine .pf 18 rfl rfl rfl ((Bool.eq_false_iff.2 c4)) (fun _ => rfl) ?_
   refine .mv 22 rfl rfl rfl ?_
   iterate 3 refine .sn 23 26 rfl rfl rfl ?_
   refine .pf 23 rfl rfl rfl rfl (fun _ => rfl) ?_
   refine .asg 27 rfl rfl rfl ?_
   exact .nil
  clear hS
  intro aW a3 hS aR hp
  replace hS := hS.nil
  have aB : sl _ 2 = .bool false := hp 28 (by decide)
  have hS := hS.cons aB
  clear hp aB
  refine aE _ _ ?_
  refine wp_ret ?_
  (try simp only [Exit.then, Exit.inBlock, Exit.jump, Exit.noGoto])
  exact bodyPost_ret (v := .bool false) (results_single rfl (Vals.at (hS.get 0 rfl) .nil)) hS.nodef ⟨rfl, aR.1⟩
 rw [if_pos c4] at H
 obtain ⟨aH, aN, H⟩ := Option.bind_eq_some_iff.mp H
 by_cases c5 : aH = true
 rotate_left
 ·rw [if_neg c5] at H
  obtain rfl := Option.some.inj H
  refine calls_of_wp (fn := Try.f48) (by kernel_rfl) rfl ?_
  have hS := St.enter #[(carillonref06_Check.v0 ab ac af ax ad ae av aw ay az ag ah ai aj ak al am an ao ap aq ar au)] 31 (by simp) [(0, (carillonref06_Check.v0 ab ac af ax ad ae av aw ay az ag ah ai aj ak al am an ao ap aq ar au))] (by simp)
  have aC := Below.refl w.heap.size w
  refine wp_seq_k (fun K1 aD => ?_)
  refine reg_seq (I := I1_ w) (ps := [IsB (carillonref06_Check.c1 ab ac af ax ad ae av aw ay az ag ah ai aj ak al am an ao ap aq ar au) 28 w.heap.size, VB false]) (by kernel_rfl) ?_ ?_ rfl hS aC ?_ ?_
  ·exact bs1
  ·exact .cons (Stays.b _ _ _) (.v (.nil))
  ·refine .on rfl (fun a w hS hI hp => does_var (x_box rfl (congrArg Value.cells (hS.get 0 rfl))) (hI).size) ?_
   refine .on rfl (fun a w hS hI hp => does_val (x_assign rfl (rfl)) rfl) ?_
   exact .nil
  clear hS
  intro aL w3 hS aF hp
  replace hS := hS.nil
  obtain ⟨g4, aA, aG, aa⟩ := (show IsB _ 28 _ (sl _ 1) _ from hp 0 (by decide))
  have hS := hS.cons aA
  clear hp aA
  refine aD _ _ ?_
  refine wp_seq_k (fun K5 aE => ?_)
  refine reg_seq (I := I2_ w w3) (ps := [VP g4 0, VI ab, VB t6, VB t6, VP g4 1, VI ac, VB t7, VB t7, VB t7, VP g4 2, VI af, VB t8, VB t8, VB t8, VP g4 4, IsV (.agg #[.int .u64 ad, .int .i64 ae]), VB t9, VB t9, VB t9, VP g4 6, VI av, VB aH, VB aH, VB aH, VU, VU, VU, VB false, VB false]) (by kernel_rfl) ?_ ?_ rfl hS ⟨aF, (bR w3)⟩ ?_ ?_
  ·exact bs2
  ·exact .v (.v (.v (.v (.v (.v (.v (.v (.v (.v (.v (.v (.v (.v (.v (.v (.v (.v (.v (.v (.v (.v (.v (.v (.v (.v (.v (.v (.v (.nil)))))))))))))))))))))))))))))
  ·refine .on rfl (fun a w hS hI hp => does_val (x_fieldE (b := 0) rfl (hS.get 0 rfl) Try.underlying28 rfl rfl (by kernel_rfl)) rfl) ?_
   refine .on rfl (fun a w hS hI hp => does_val (x_load1 (d := .int .i64) rfl (hp.V 0 rfl rfl) (by kernel_rfl) rfl ((blk_cell (((hI.2).block g4 (blk_lt aa)).trans aa) 0).trans rfl)) rfl) ?_
   refine .on rfl (fun a w hS hI hp => does_call (by kernel_rfl) (ar1 (hp.V 1 rfl rfl)) ((carillonref06_Known.calls ab t6 _  aI).mono fun _ _ h => ⟨_, h.1, h.2.below, rfl⟩)) ?_
   refine .mv 2 rfl rfl rfl ?_
   refine .oy 3 6 rfl rfl c1 (fun a w hS hI hp => does_val (x_fieldE (b := 0) rfl (hS.get 0 rfl) Try.underlying28 rfl rfl (by kernel_rfl)) rfl) ?_
   refine .oy 3 6 rfl rfl c1 (fun a w hS hI hp => does_val (x_load1 (d := .int .i64) rfl (hp.V 4 rfl rfl) (by kernel_rfl) rfl ((blk_cell (((hI.2).block g4 (blk_lt aa)).trans aa) 1).trans rfl)) rfl) ?_
   refine .oy 3 6 rfl rfl c1 (fun a w hS hI hp => does_call (by kernel_rfl) (ar3 (hp.V 5 rfl rfl) (rfl) (rfl)) ((carillonref05_In.calls ac 0 255 t7 _  aK).mono fun _ _ h => ⟨_, h.1, h.2.below, rfl⟩)) ?_
   refine .pt 3 6 rfl rfl rfl c1 rfl ?_
   refine .mv 7 rfl rfl rfl ?_
   refine .oy 8 11 rfl rfl c2 (fun a w hS hI hp => does_val (x_fieldE (b := 0) rfl (hS.get 0 rfl) Try.underlying28 rfl rfl (by kernel_rfl)) rfl) ?_
   refine .oy 8 11 rfl rfl c2 (fun a w hS hI hp => does_val (x_load1 (d := .int .i64) rfl (hp.V 9 rfl rfl) (by kernel_rfl) rfl ((blk_cell (((hI.2).block g4 (blk_lt aa)).trans aa) 2).trans rfl)) rfl) ?_
   refine .oy 8 11 rfl rfl c2 (fun a w hS hI hp => does_call (by kernel_rfl) (ar3 (hp.V 10 rfl rfl) (rfl) (rfl)) ((carillonref05_In.calls af 0 65535 t8 _  aM).mono fun _ _ h => ⟨_, h.1, h.2.below, rfl⟩)) ?_
   refine .pt 8 11 rfl rfl rfl c2 rfl ?_
   refine .mv 12 rfl rfl rfl ?_
   refine .oy 13 16 rfl rfl c3 (fun a w hS hI hp => does_val (x_fieldE (b := 0) rfl (hS.get 0 rfl) Try.underlying28 rfl rfl (by kernel_rfl)) rfl) ?_
   refine .oy 13 16 rfl rfl c3 (fun a w hS hI hp => does_loadmid (cs := [.int .u64 ad, .int .i64 ae]) rfl (hp.V 14 rfl rfl) (((hI.2).block g4 (blk_lt aa)).trans aa) (by kernel_rfl) Try.underlying24 rfl (by kernel_rfl) rfl) ?_
   refine .oy 13 16 rfl rfl c3 (fun a w hS hI hp => does_call (by kernel_rfl) (ar1 (hp.V 15 rfl rfl)) ((carillonref04_May.calls ad ae t9 _  aO).mono fun _ _ h => ⟨_, h.1, h.2, rfl⟩)) ?_
   refine .pt 13 16 rfl rfl rfl c3 rfl ?_
   refine .mv 17 rfl rfl rfl ?_
   refine .oy 18 21 rfl rfl c4 (fun a w hS hI hp => does_val (x_fieldE (b := 0) rfl (hS.get 0 rfl) Try.underlying28 rfl rfl (by kernel_rfl)) rfl) ?_
   refine .oy 18 21 rfl rfl c4 (fun a w hS hI hp => does_val (x_load1 (d := .int .i64) rfl (hp.V 19 rfl rfl) (by kernel_rfl) rfl ((blk_cell (((hI.2).block g4 (blk_lt aa)).trans aa) 6).trans rfl)) rfl) ?_
   refine .oy 18 21 rfl rfl c4 (fun a w hS hI hp => does_call (by kernel_rfl) (ar3 (hp.V 20 rfl rfl) (rfl) (rfl)) ((carillonref05_In.calls av 0 65535 aH _  aN).mono fun _ _ h => ⟨_, h.1, h.2.below, rfl⟩)) ?_
   refine .pt 18 21 rfl rfl rfl c4 rfl ?_
   refine .mv 22 rfl rfl rfl ?_
   iterate 3 refine .sn 23 26 rfl rfl ((Bool.eq_false_iff.2 c5)) ?_
   refine .pf 23 rfl rfl rfl ((Bool.eq_false_iff.2 c5)) (fun _ => rfl) ?_
   refine .asg 27 rfl rfl rfl ?_
   exact .nil
  clear hS
  intro aX a4 hS aS hp
  replace hS := hS.nil
  have aB : sl _ 2 = .bool false := hp 28 (by decide)
  have hS := hS.cons aB
  clear hp aB
  refine aE _ _ ?_
  refine wp_ret ?_
  (try simp only [Exit.then, Exit.inBlock, Exit.jump, Exit.noGoto])
  exact bodyPost_ret (v := .bool false) (results_single rfl (Vals.at (hS.get 0 rfl) .nil)) hS.nodef ⟨rfl, aS.1⟩
 rw [if_pos c5] at H
 obtain ⟨aJ, aP, H⟩ := Option.bind_eq_some_iff.mp H
 obtain rfl := Option.some.inj H
 refine calls_of_wp (fn := Try.f48) (by kernel_rfl) rfl ?_
 have hS := St.enter #[(carillonref06_Check.v0 ab ac af ax ad ae av aw ay az ag ah ai aj ak al am an ao ap aq ar au)] 31 (by simp) [(0, (carillonref06_Check.v0 ab ac af ax ad ae av aw ay az ag ah ai aj ak al am an ao ap aq ar au))] (by simp)
 have aC := Below.refl w.heap.size w
 refine wp_seq_k (fun K1 aD => ?_)
 refine reg_seq (I := I1_ w) (ps := [IsB (carillonref06_Check.c1 ab ac af ax ad ae av aw ay az ag ah ai aj ak al am an ao ap aq ar au) 28 w.heap.size, VB false]) (by kernel_rfl) ?_ ?_ rfl hS aC ?_ ?_
 ·exact bs1
 ·exact .cons (Stays.b _ _ _) (.v (.nil))
 ·refine .on rfl (fun a w hS hI hp => does_var (x_box rfl (congrArg Value.cells (hS.get 0 rfl))) (hI).size) ?_
  refine .on rfl (fun a w hS hI hp => does_val (x_assign rfl (rfl)) rfl) ?_
  exact .nil
 clear hS
 intro aL w3 hS aF hp
 replace hS := hS.nil
 obtain ⟨g4, aA, aG, aa⟩ := (show IsB _ 28 _ (sl _ 1) _ from hp 0 (by decide))
 have hS := hS.cons aA
 clear hp aA
 refine aD _ _ ?_
 refine wp_seq_k (fun K5 aE => ?_)
 refine reg_seq (I := I2_ w w3) (ps := [VP g4 0, VI ab, VB t6, VB t6, VP g4 1, VI ac, VB t7, VB t7, VB t7, VP g4 2, VI af, VB t8, VB t8, VB t8, VP g4 4, IsV (.agg #[.int .u64 ad, .int .i64 ae]), VB t9, VB t9, VB t9, VP g4 6, VI av, VB aH, VB aH, VB aH, VP g4 7, VI aw, VB aJ, VB aJ, VB aJ]) (by kernel_rfl) ?_ ?_ rfl hS ⟨aF, (bR w3)⟩ ?_ ?_
 ·exact bs2
 ·exact .v (.v (.v (.v (.v (.v (.v (.v (.v (.v (.v (.v (.v (.v (.v (.v (.v (.v (.v (.v (.v (.v (.v (.v (.v (.v (.v (.v (.v (.nil)))))))))))))))))))))))))))))
 ·refine .on rfl (fun a w hS hI hp => does_val (x_fieldE (b := 0) rfl (hS.get 0 rfl) Try.underlying28 rfl rfl (by kernel_rfl)) rfl) ?_
  refine .on rfl (fun a w hS hI hp => does_val (x_load1 (d := .int .i64) rfl (hp.V 0 rfl rfl) (by kernel_rfl) rfl ((blk_cell (((hI.2).block g4 (blk_lt aa)).trans aa) 0).trans rfl)) rfl) ?_
  refine .on rfl (fun a w hS hI hp => does_call (by kernel_rfl) (ar1 (hp.V 1 rfl rfl)) ((carillonref06_Known.calls ab t6 _  aI).mono fun _ _ h => ⟨_, h.1, h.2.below, rfl⟩)) ?_
  refine .mv 2 rfl rfl rfl ?_
  refine .oy 3 6 rfl rfl c1 (fun a w hS hI hp => does_val (x_fieldE (b := 0) rfl (hS.get 0 rfl) Try.underlying28 rfl rfl (by kernel_rfl)) rfl) ?_
  refine .oy 3 6 rfl rfl c1 (fun a w hS hI hp => does_val (x_load1 (d := .int .i64) rfl (hp.V 4 rfl rfl) (by kernel_rfl) rfl ((blk_cell (((hI.2).block g4 (blk_lt aa)).trans aa) 1).trans rfl)) rfl) ?_
  refine .oy 3 6 rfl rfl c1 (fun a w hS hI hp => does_call (by kernel_rfl) (ar3 (hp.V 5 rfl rfl) (rfl) (rfl)) ((carillonref05_In.calls ac 0 255 t7 _  aK).mono fun _ _ h => ⟨_, h.1, h.2.below, rfl⟩)) ?_
  refine .pt 3 6 rfl rfl rfl c1 rfl ?_
  refine .mv 7 rfl rfl rfl ?_
  refine .oy 8 11 rfl rfl c2 (fun a w hS hI hp => does_val (x_fieldE (b := 0) rfl (hS.get 0 rfl) Try.underlying28 rfl rfl (by kernel_rfl)) rfl) ?_
  refine .oy 8 11 rfl rfl c2 (fun a w hS hI hp => does_val (x_load1 (d := .int .i64) rfl (hp.V 9 rfl rfl) (by kernel_rfl) rfl ((blk_cell (((hI.2).block g4 (blk_lt aa)).trans aa) 2).trans rfl)) rfl) ?_
  refine .oy 8 11 rfl rfl c2 (fun a w hS hI hp => does_call (by kernel_rfl) (ar3 (hp.V 10 rfl rfl) (rfl) (rfl)) ((carillonref05_In.calls af 0 65535 t8 _  aM).mono fun _ _ h => ⟨_, h.1, h.2.below, rfl⟩)) ?_
  refine .pt 8 11 rfl rfl rfl c2 rfl ?_
  refine .mv 12 rfl rfl rfl ?_
  refine .oy 13 16 rfl rfl c3 (fun a w hS hI hp => does_val (x_fieldE (b := 0) rfl (hS.get 0 rfl) Try.underlying28 rfl rfl (by kernel_rfl)) rfl) ?_
  refine .oy 13 16 rfl rfl c3 (fun a w hS hI hp => does_loadmid (cs := [.int .u64 ad, .int .i64 ae]) rfl (hp.V 14 rfl rfl) (((hI.2).block g4 (blk_lt aa)).trans aa) (by kernel_rfl) Try.underlying24 rfl (by kernel_rfl) rfl) ?_
  refine .oy 13 16 rfl rfl c3 (fun a w hS hI hp => does_call (by kernel_rfl) (ar1 (hp.V 15 rfl rfl)) ((carillonref04_May.calls ad ae t9 _  aO).mono fun _ _ h => ⟨_, h.1, h.2, rfl⟩)) ?_
  refine .pt 13 16 rfl rfl rfl c3 rfl ?_
  refine .mv 17 rfl rfl rfl ?_
  refine .oy 18 21 rfl rfl c4 (fun a w hS hI hp => does_val (x_fieldE (b := 0) rfl (hS.get 0 rfl) Try.underlying28 rfl rfl (by kernel_rfl)) rfl) ?_
  refine .oy 18 21 rfl rfl c4 (fun a w hS hI hp => does_val (x_load1 (d := .int .i64) rfl (hp.V 19 rfl rfl) (by kernel_rfl) rfl ((blk_cell (((hI.2).block g4 (blk_lt aa)).trans aa) 6).trans rfl)) rfl) ?_
  refine .oy 18 21 rfl rfl c4 (fun a w hS hI hp => does_call (by kernel_rfl) (ar3 (hp.V 20 rfl rfl) (rfl) (rfl)) ((carillonref05_In.calls av 0 65535 aH _  aN).mono fun _ _ h => ⟨_, h.1, h.2.below, rfl⟩)) ?_
  refine .pt 18 21 rfl rfl rfl c4 rfl ?_
  refine .mv 22 rfl rfl rfl ?_
  refine .oy 23 26 rfl rfl c5 (fun a w hS hI hp => does_val (x_fieldE (b := 0) rfl (hS.get 0 rfl) Try.underlying28 rfl rfl (by kernel_rfl)) rfl) ?_
  refine .oy 23 26 rfl rfl c5 (fun a w hS hI hp => does_val (x_load1 (d := .int .i64) rfl (hp.V 24 rfl rfl) (by kernel_rfl) rfl ((blk_cell (((hI.2).block g4 (blk_lt aa)).trans aa) 7).trans rfl)) rfl) ?_
  refine .oy 23 26 rfl rfl c5 (fun a w hS hI hp => does_call (by kernel_rfl) (ar3 (hp.V 25 rfl rfl) (rfl) (rfl)) ((carillonref05_In.calls aw (-128) 127 aJ _  aP).mono fun _ _ h => ⟨_, h.1, h.2.below, rfl⟩)) ?_
  refine .pt 23 26 rfl rfl rfl c5 rfl ?_
  refine .asg 27 rfl rfl rfl ?_
  exact .nil
 clear hS
 intro aY a5 hS aT hp
 replace hS := hS.nil
 have aB : sl _ 2 = .bool aJ := hp 28 (by decide)
 have hS := hS.cons aB
 clear hp aB
 refine aE _ _ ?_
 refine wp_ret ?_
 (try simp only [Exit.then, Exit.inBlock, Exit.jump, Exit.noGoto])
 exact bodyPost_ret (v := .bool aJ) (results_single rfl (Vals.at (hS.get 0 rfl) .nil)) hS.nodef ⟨rfl, aT.1⟩
def carillonref07_stamped.f (a0 : Int) : Option (Bool) := if a0 = 12 then (some false) else (some (a0 != 13))
set_option maxHeartbeats 8000000 in
set_option maxRecDepth 100000 in
theorem carillonref07_stamped.calls (a0 : Int) (r : Bool) (w : World) (h : carillonref07_stamped.f a0 = some r) :
    Calls Try.prog 49 #[.int .i64 a0] w fun e w' => e = .returned (.bool r) ∧ Drawn0 w w' := by
  have H : (if a0 = 12 then (some false) else (some (a0 != 13))) = some r := h
  clear h
  by_cases c2 : a0 = 12
  · rw [if_pos c2] at H
    have c2b0 : (a0 == 12) = true := beq_iff_eq.mpr c2
    have c2b1 : (a0 != 12) = false := bne_eq_false_iff_eq.mpr c2
    clear c2
    obtain rfl := Option.some.inj H
    go_enter Try.func49, Try.ntmps49
    go_wp2
    all_goals
      go_ret
      exact ⟨by first | rfl | (simp; done) | (simp [*]; done), by repeat (first | exact Drawn0.refl _ | apply Drawn0.step)⟩
  · rw [if_neg c2] at H
    have c2b0 : (a0 == 12) = false := beq_eq_false_iff_ne.mpr c2
    have c2b1 : (a0 != 12) = true := bne_iff_ne.mpr c2
    obtain rfl := Option.some.inj H
    go_enter Try.func49, Try.ntmps49
    go_wp2
    all_goals
      go_ret
      exact ⟨by first | rfl | (simp; done) | (simp [*]; done), by repeat (first | exact Drawn0.refl _ | apply Drawn0.step)⟩
def carillonref02_May.f (a0 : Int) : Option (Bool) := if a0 ≥ 0 then (some (decide (a0 ≤ 4000000000000000))) else (some false)
set_option maxHeartbeats 8000000 in
set_option maxRecDepth 100000 in
theorem carillonref02_May.calls (a0 : Int) (r : Bool) (w : World) (h : carillonref02_May.f a0 = some r) :
    Calls Try.prog 50 #[.int .i64 a0] w fun e w' => e = .returned (.bool r) ∧ Drawn0 w w' := by
  have H : (if a0 ≥ 0 then (some (decide (a0 ≤ 4000000000000000))) else (some false)) = some r := h
  clear h
  by_cases c2 : a0 ≥ 0
  · rw [if_pos c2] at H
    have c2b0 : decide (0 ≤ a0) = true := decide_eq_true c2
    clear c2
    obtain rfl := Option.some.inj H
    go_enter Try.func50, Try.ntmps50
    go_wp2
    all_goals
      go_ret
      exact ⟨by first | rfl | (simp; done) | (simp [*]; done), by repeat (first | exact Drawn0.refl _ | apply Drawn0.step)⟩
  · rw [if_neg c2] at H
    have c2b0 : decide (0 ≤ a0) = false := decide_eq_false c2
    clear c2
    obtain rfl := Option.some.inj H
    go_enter Try.func50, Try.ntmps50
    go_wp2
    all_goals
      go_ret
      exact ⟨by first | rfl | (simp; done) | (simp [*]; done), by repeat (first | exact Drawn0.refl _ | apply Drawn0.step)⟩
def carillonref07_targeted.f (a0 : Int) : Option (Bool) := if a0 = 9 then (some true) else (if a0 = 3 then (some true) else (if a0 = 10 then (some true) else (if a0 = 12 then (some true) else (some (a0 == 13)))))
set_option maxHeartbeats 8000000 in
set_option maxRecDepth 100000 in
theorem carillonref07_targeted.calls (a0 : Int) (r : Bool) (w : World) (h : carillonref07_targeted.f a0 = some r) :
    Calls Try.prog 51 #[.int .i64 a0] w fun e w' => e = .returned (.bool r) ∧ Drawn0 w w' := by
  have H : (if a0 = 9 then (some true) else (if a0 = 3 then (some true) else (if a0 = 10 then (some true) else (if a0 = 12 then (some true) else (some (a0 == 13)))))) = some r := h
  clear h
  by_cases c2 : a0 = 9
  · rw [if_pos c2] at H
    have c2b0 : (a0 == 9) = true := beq_iff_eq.mpr c2
    have c2b1 : (a0 != 9) = false := bne_eq_false_iff_eq.mpr c2
    clear c2
    obtain rfl := Option.some.inj H
    go_enter Try.func51, Try.ntmps51
    go_wp2
    all_goals
      go_ret
      exact ⟨by first | rfl | (simp; done) | (simp [*]; done), by repeat (first | exact Drawn0.refl _ | apply Drawn0.step)⟩
  · rw [if_neg c2] at H
    have c2b0 : (a0 == 9) = false := beq_eq_false_iff_ne.mpr c2
    have c2b1 : (a0 != 9) = true := bne_iff_ne.mpr c2
    by_cases c3 : a0 = 3
    · rw [if_pos c3] at H
      have c3b0 : (a0 == 3) = true := beq_iff_eq.mpr c3
      have c3b1 : (a0 != 3) = false := bne_eq_false_iff_eq.mpr c3
      clear c3
      obtain rfl := Option.some.inj H
      go_enter Try.func51, Try.ntmps51
      go_wp2
      all_goals
        go_ret
        exact ⟨by first | rfl | (simp; done) | (simp [*]; done), by repeat (first | exact Drawn0.refl _ | apply Drawn0.step)⟩
    · rw [if_neg c3] at H
      have c3b0 : (a0 == 3) = false := beq_eq_false_iff_ne.mpr c3
      have c3b1 : (a0 != 3) = true := bne_iff_ne.mpr c3
      by_cases c4 : a0 = 10
      · rw [if_pos c4] at H
        have c4b0 : (a0 == 10) = true := beq_iff_eq.mpr c4
        have c4b1 : (a0 != 10) = false := bne_eq_false_iff_eq.mpr c4
        clear c4
        obtain rfl := Option.some.inj H
        go_enter Try.func51, Try.ntmps51
        go_wp2
        all_goals
          go_ret
          exact ⟨by first | rfl | (simp; done) | (simp [*]; done), by repeat (first | exact Drawn0.refl _ | apply Drawn0.step)⟩
      · rw [if_neg c4] at H
        have c4b0 : (a0 == 10) = false := beq_eq_false_iff_ne.mpr c4
        have c4b1 : (a0 != 10) = true := bne_iff_ne.mpr c4
        by_cases c5 : a0 = 12
        · rw [if_pos c5] at H
          have c5b0 : (a0 == 12) = true := beq_iff_eq.mpr c5
          have c5b1 : (a0 != 12) = false := bne_eq_false_iff_eq.mpr c5
          clear c5
          obtain rfl := Option.some.inj H
          go_enter Try.func51, Try.ntmps51
          go_wp2
          all_goals
            go_ret
            exact ⟨by first | rfl | (simp; done) | (simp [*]; done), by repeat (first | exact Drawn0.refl _ | apply Drawn0.step)⟩
        · rw [if_neg c5] at H
          have c5b0 : (a0 == 12) = false := beq_eq_false_iff_ne.mpr c5
          have c5b1 : (a0 != 12) = true := bne_iff_ne.mpr c5
          obtain rfl := Option.some.inj H
          go_enter Try.func51, Try.ntmps51
          go_wp2
          all_goals
            go_ret
            exact ⟨by first | rfl | (simp; done) | (simp [*]; done), by repeat (first | exact Drawn0.refl _ | apply Drawn0.step)⟩
def carillonref05_May.f (a0_0 : Int) (a0_1 : Int) (a0_2 : Int) : Option (Bool) := (carillonref05_In.f a0_0 0 255).bind fun t161 => (if t161 = true then ((carillonref05_In.f a0_1 0 255).bind fun t162 => (if t162 = true then ((carillonref05_In.f a0_2 0 65535).bind fun t163 => (some t163)) else (some false))) else (some false))
set_option maxHeartbeats 8000000 in
set_option maxRecDepth 100000 in
theorem carillonref05_May.calls (a0_0 : Int) (a0_1 : Int) (a0_2 : Int) (r : Bool) (w : World) (h : carillonref05_May.f a0_0 a0_1 a0_2 = some r) :
    Calls Try.prog 54 #[.agg #[.int .i64 a0_0, .int .i64 a0_1, .int .i64 a0_2]] w fun e w' => e = .returned (.bool r) ∧ Below w.heap.size w w' := by
  have hu26 := Try.underlying26
  have HB := Aside0.mk (Below.refl w.heap.size w)
  have H : ((carillonref05_In.f a0_0 0 255).bind fun t161 => (if t161 = true then ((carillonref05_In.f a0_1 0 255).bind fun t162 => (if t162 = true then ((carillonref05_In.f a0_2 0 65535).bind fun t163 => (some t163)) else (some false))) else (some false))) = some r := h
  clear h
  replace H := Option.bind_eq_some_iff.mp H
  obtain ⟨t161, A20, H⟩ := H
  replace H : (if t161 = true then ((carillonref05_In.f a0_1 0 255).bind fun t162 => (if t162 = true then ((carillonref05_In.f a0_2 0 65535).bind fun t163 => (some t163)) else (some false))) else (some false)) = some r := H
  have A2 := Aside0.mk A20
  clear A20
  by_cases c3 : t161 = true
  · subst c3
    have H1 : ((carillonref05_In.f a0_1 0 255).bind fun t162 => (if t162 = true then ((carillonref05_In.f a0_2 0 65535).bind fun t163 => (some t163)) else (some false))) = some r := by rw [if_pos rfl] at H; exact H
    clear H
    have H := H1
    clear H1
    replace H := Option.bind_eq_some_iff.mp H
    obtain ⟨t162, A40, H⟩ := H
    replace H : (if t162 = true then ((carillonref05_In.f a0_2 0 65535).bind fun t163 => (some t163)) else (some false)) = some r := H
    have A4 := Aside0.mk A40
    clear A40
    by_cases c5 : t162 = true
    · subst c5
      have H1 : ((carillonref05_In.f a0_2 0 65535).bind fun t163 => (some t163)) = some r := by rw [if_pos rfl] at H; exact H
      clear H
      have H := H1
      clear H1
      replace H := Option.bind_eq_some_iff.mp H
      obtain ⟨t163, A60, H⟩ := H
      replace H : (some t163) = some r := H
      have A6 := Aside0.mk A60
      clear A60
      obtain rfl := Option.some.inj H
      go_enter Try.func54, Try.ntmps54
      go_wp2_with (first | ((with_reducible refine gate_dst (N := 1) rfl ?_); refine box_event ?hg (N := 1) ?hd (cs := #[.int .i64 a0_0, .int .i64 a0_1, .int .i64 a0_2]) (t := 26) ?hr ?_; (case hd => rfl); (case hg => rfl); (case hr => first | (go_simp; done) | (go_simp; rfl)); intro gb160 hg w7 hbox hb; have n0_ := Aside0.mk (below_step (by repeat (first | (with_reducible first | exact HB.out | apply below_alloc | apply pw_below_drewN | apply below_drew1) | exact HB.out)) hb); have n1_ := Aside0.mk (hbox); have n2_ := Aside0.mk ((by rw [hg]; exact (below_size (by repeat (first | (with_reducible first | exact HB.out | apply below_alloc | apply pw_below_drewN | apply below_drew1) | exact HB.out))) : w.heap.size ≤ gb160)); have n3_ := Aside0.mk ((by rw [hg]; exact (below_size (by repeat (first | (with_reducible first | exact HB.out | apply below_alloc | apply pw_below_drewN | apply below_drew1) | exact HB.out))) : w.heap.size ≤ gb160)); clear HB; have HB := n0_; have BK160 := n1_; have GW160 := n2_; have GE160 := n3_; clear n0_ n1_ n2_ n3_; clear hb hbox hg; have hcz8_0 : w7.cell? ⟨gb160, 0, none⟩ = some (.int .i64 a0_0) := (blk_cell BK160.out 0).trans rfl; have hcz8_1 : w7.cell? ⟨gb160, 1, none⟩ = some (.int .i64 a0_1) := (blk_cell BK160.out 1).trans rfl; have hcz8_2 : w7.cell? ⟨gb160, 2, none⟩ = some (.int .i64 a0_2) := (blk_cell BK160.out 2).trans rfl; have hfz8_0 := blk_frozen BK160.out 0; have hfz8_1 := blk_frozen BK160.out 1; have hfz8_2 := blk_frozen BK160.out 2) | ((with_reducible refine gate_callee (f := 53) rfl ?_); refine goesL_ (some 5) rfl rfl Try.func53 (by kernel_rfl) rfl #[.int .i64 a0_0, .int .i64 0, .int .i64 255] rfl (by (try simp only [List.map_toArray, List.map_cons, List.map_nil]); first | done | rfl | (simp only [List.length_drop, List.length_take]; rfl)) ?_; (with_reducible refine (carillonref05_In.calls a0_0 0 255 true _ A2.out).mono ?_); rintro e w' ⟨rfl, ⟨nd, rfl⟩⟩; refine ⟨_, rfl, ?_⟩) | (go_at_call 53; (with_reducible refine (carillonref05_In.calls a0_1 0 255 true _ A4.out).mono ?_); rintro e w' ⟨rfl, ⟨nd, rfl⟩⟩) | (go_at_call 53; (with_reducible refine (carillonref05_In.calls a0_2 0 65535 t163 _ A6.out).mono ?_); rintro e w' ⟨rfl, ⟨nd, rfl⟩⟩))
      all_goals
        go_ret
        exact ⟨by first | rfl | (simp [errW_none, errW_some] <;> rfl) | (simp [*, errW_none, errW_some] <;> rfl), by repeat (first | (with_reducible first | exact HB.out | apply below_alloc | apply pw_below_drewN | apply below_drew1 | refine below_set ?_ GE160.out) | exact HB.out)⟩
    · replace c5 := Bool.eq_false_iff.mpr c5
      subst c5
      have H1 : (some false) = some r := by rw [if_neg (show ¬ (false = true) by decide)] at H; exact H
      clear H
      have H := H1
      clear H1
      obtain rfl := Option.some.inj H
      go_enter Try.func54, Try.ntmps54
      go_wp2_with (first | ((with_reducible refine gate_dst (N := 1) rfl ?_); refine box_event ?hg (N := 1) ?hd (cs := #[.int .i64 a0_0, .int .i64 a0_1, .int .i64 a0_2]) (t := 26) ?hr ?_; (case hd => rfl); (case hg => rfl); (case hr => first | (go_simp; done) | (go_simp; rfl)); intro gb160 hg w9 hbox hb; have n0_ := Aside0.mk (below_step (by repeat (first | (with_reducible first | exact HB.out | apply below_alloc | apply pw_below_drewN | apply below_drew1) | exact HB.out)) hb); have n1_ := Aside0.mk (hbox); have n2_ := Aside0.mk ((by rw [hg]; exact (below_size (by repeat (first | (with_reducible first | exact HB.out | apply below_alloc | apply pw_below_drewN | apply below_drew1) | exact HB.out))) : w.heap.size ≤ gb160)); have n3_ := Aside0.mk ((by rw [hg]; exact (below_size (by repeat (first | (with_reducible first | exact HB.out | apply below_alloc | apply pw_below_drewN | apply below_drew1) | exact HB.out))) : w.heap.size ≤ gb160)); clear HB; have HB := n0_; have BK160 := n1_; have GW160 := n2_; have GE160 := n3_; clear n0_ n1_ n2_ n3_; clear hb hbox hg; have hcz10_0 : w9.cell? ⟨gb160, 0, none⟩ = some (.int .i64 a0_0) := (blk_cell BK160.out 0).trans rfl; have hcz10_1 : w9.cell? ⟨gb160, 1, none⟩ = some (.int .i64 a0_1) := (blk_cell BK160.out 1).trans rfl; have hcz10_2 : w9.cell? ⟨gb160, 2, none⟩ = some (.int .i64 a0_2) := (blk_cell BK160.out 2).trans rfl; have hfz10_0 := blk_frozen BK160.out 0; have hfz10_1 := blk_frozen BK160.out 1; have hfz10_2 := blk_frozen BK160.out 2) | ((with_reducible refine gate_callee (f := 53) rfl ?_); refine goesL_ (some 5) rfl rfl Try.func53 (by kernel_rfl) rfl #[.int .i64 a0_0, .int .i64 0, .int .i64 255] rfl (by (try simp only [List.map_toArray, List.map_cons, List.map_nil]); first | done | rfl | (simp only [List.length_drop, List.length_take]; rfl)) ?_; (with_reducible refine (carillonref05_In.calls a0_0 0 255 true _ A2.out).mono ?_); rintro e w' ⟨rfl, ⟨nd, rfl⟩⟩; refine ⟨_, rfl, ?_⟩) | (go_at_call 53; (with_reducible refine (carillonref05_In.calls a0_1 0 255 false _ A4.out).mono ?_); rintro e w' ⟨rfl, ⟨nd, rfl⟩⟩))
      all_goals
        go_ret
        exact ⟨by first | rfl | (simp [errW_none, errW_some] <;> rfl) | (simp [*, errW_none, errW_some] <;> rfl), by repeat (first | (with_reducible first | exact HB.out | apply below_alloc | apply pw_below_drewN | apply below_drew1 | refine below_set ?_ GE160.out) | exact HB.out)⟩
  · replace c3 := Bool.eq_false_iff.mpr c3
    subst c3
    have H1 : (some false) = some r := by rw [if_neg (show ¬ (false = true) by decide)] at H; exact H
    clear H
    have H := H1
    clear H1
    obtain rfl := Option.some.inj H
    go_enter Try.func54, Try.ntmps54
    go_wp2_with (first | ((with_reducible refine gate_dst (N := 1) rfl ?_); refine box_event ?hg (N := 1) ?hd (cs := #[.int .i64 a0_0, .int .i64 a0_1, .int .i64 a0_2]) (t := 26) ?hr ?_; (case hd => rfl); (case hg => rfl); (case hr => first | (go_simp; done) | (go_simp; rfl)); intro gb160 hg w11 hbox hb; have n0_ := Aside0.mk (below_step (by repeat (first | (with_reducible first | exact HB.out | apply below_alloc | apply pw_below_drewN | apply below_drew1) | exact HB.out)) hb); have n1_ := Aside0.mk (hbox); have n2_ := Aside0.mk ((by rw [hg]; exact (below_size (by repeat (first | (with_reducible first | exact HB.out | apply below_alloc | apply pw_below_drewN | apply below_drew1) | exact HB.out))) : w.heap.size ≤ gb160)); have n3_ := Aside0.mk ((by rw [hg]; exact (below_size (by repeat (first | (with_reducible first | exact HB.out | apply below_alloc | apply pw_below_drewN | apply below_drew1) | exact HB.out))) : w.heap.size ≤ gb160)); clear HB; have HB := n0_; have BK160 := n1_; have GW160 := n2_; have GE160 := n3_; clear n0_ n1_ n2_ n3_; clear hb hbox hg; have hcz12_0 : w11.cell? ⟨gb160, 0, none⟩ = some (.int .i64 a0_0) := (blk_cell BK160.out 0).trans rfl; have hcz12_1 : w11.cell? ⟨gb160, 1, none⟩ = some (.int .i64 a0_1) := (blk_cell BK160.out 1).trans rfl; have hcz12_2 : w11.cell? ⟨gb160, 2, none⟩ = some (.int .i64 a0_2) := (blk_cell BK160.out 2).trans rfl; have hfz12_0 := blk_frozen BK160.out 0; have hfz12_1 := blk_frozen BK160.out 1; have hfz12_2 := blk_frozen BK160.out 2) | ((with_reducible refine gate_callee (f := 53) rfl ?_); refine goesL_ (some 5) rfl rfl Try.func53 (by kernel_rfl) rfl #[.int .i64 a0_0, .int .i64 0, .int .i64 255] rfl (by (try simp only [List.map_toArray, List.map_cons, List.map_nil]); first | done | rfl | (simp only [List.length_drop, List.length_take]; rfl)) ?_; (with_reducible refine (carillonref05_In.calls a0_0 0 255 false _ A2.out).mono ?_); rintro e w' ⟨rfl, ⟨nd, rfl⟩⟩; refine ⟨_, rfl, ?_⟩))
    all_goals
      go_ret
      exact ⟨by first | rfl | (simp [errW_none, errW_some] <;> rfl) | (simp [*, errW_none, errW_some] <;> rfl), by repeat (first | (with_reducible first | exact HB.out | apply below_alloc | apply pw_below_drewN | apply below_drew1 | refine below_set ?_ GE160.out) | exact HB.out)⟩
end Go.Proofs.Ytiomlbkakiienaa.P
