/- Functions and loops of the given program as Lean functions, and that the code comes to what they say: written by this session's own program; Lean checks it. -/
import Derived.Test.YtinlfcfcpolodaaZzPx0
namespace Go.Proofs.Ytinlfcfcpolodaa.P
open Go.RowKit Go.Proofs.YtinlfcfcpolodaaW.PrintWords Go.Proofs.YtinlfcfcpolodaaW.PrintLast Go.Proofs.YtinlfcfcpolodaaW.PrintMore
attribute [local go_sem] max2_int min2_int max_two min_two max_three min_three max_four min_four   -- for this text's walks alone
set_option linter.unusedVariables false
set_option linter.unusedSimpArgs false
/-! ### carillonlaw04_IdentMacs_1: function 9: by our own printer -/
def carillonlaw04_IdentMacs_1.l1 (k : Nat) : Nat → Int → (List Int) → Int → Option (List Int)
  | 0, _, _, _ => none
  | n1 + 1, x1_0, y1_3, x1_4 => if x1_4 ≥ 0 then (if 0 ≤ (IntKind.u64.wrap (wrap64 (8 * x1_4))) then (if (y1_3.length + [IntKind.u8.wrap (shr .u64 x1_0 (IntKind.u64.wrap (wrap64 (8 * x1_4))))].length) * 1 ≤ 140737488355328 then (carillonlaw04_IdentMacs_1.l1 k n1 x1_0 (y1_3 ++ [IntKind.u8.wrap (shr .u64 x1_0 (IntKind.u64.wrap (wrap64 (8 * x1_4))))] : List Int) (wrap64 (x1_4 - 1))) else (none)) else (none)) else (some y1_3)
def carillonlaw04_IdentMacs_1.f (k : Nat) (a0 : Int) : Option (List Int) := carillonlaw04_IdentMacs_1.l1 k k a0 [] 5
open Go.Proofs.Ytinlfcfcpolodaa.E in
set_option maxHeartbeats 60000000 in
set_option maxRecDepth 100000 in
theorem carillonlaw04_IdentMacs_1.calls (k : Nat) (a0 : Int) (r : List Int) (w : World) (h : carillonlaw04_IdentMacs_1.f k a0 = some r) :
    Calls Try.prog 9 #[.int .u64 a0] w fun e w' => ∃ v0_ : Value, e = .returned v0_ ∧ Kd.R (Kd.int .u8) 5 w' w.heap.size (fun _ => True) v0_ r ∧ Below w.heap.size w w' := by
 have H := h
 clear h
 unfold carillonlaw04_IdentMacs_1.f at H
 refine calls_of_wp (fn := Try.f9) (by kernel_rfl) rfl ?_
 have hS := St.enter #[.int .u64 a0] 19 (by simp) [(0, .int .u64 a0)] (by simp)
 have aX := Below.refl w.heap.size w
 refine wp_seq_k (fun K1 a3 => ?_)
 refine reg_seq (I := I1_ w) (ps := [IsV (.slice none 0 0)]) (by kernel_rfl) ?_ ?_ rfl hS aX ?_ ?_
 ·exact bs1
 ·exact .v (.nil)
 ·refine .on rfl (fun a w hS hI hp => does_val (x_assign rfl (rfl)) rfl) ?_
  exact .nil
 clear hS
 intro bg w3 hS ba hp
 clear hp
 refine a3 _ _ ?_
 refine wp_seq_k (fun K4 a4 => ?_)
 refine reg_seq (I := I2_ w w3) (ps := [IsV (.slice none 0 0)]) (by kernel_rfl) ?_ ?_ rfl hS ⟨ba, (bR w3)⟩ ?_ ?_
 ·exact bs2
 ·exact .v (.nil)
 ·refine .on rfl (fun a w hS hI hp => does_val (x_assign rfl (rfl)) rfl) ?_
  exact .nil
 clear hS
 intro bh w6 hS bb hp
 have aS : sl _ 3 = .slice none 0 0 := hp 0 (by decide)
 have hS := hS.cons aS
 clear hp aS
 refine a4 _ _ ?_
 refine wp_seq_k (fun K7 a5 => ?_)
 refine wp_seq_k (fun K8 a6 => ?_)
 refine reg_seq (I := I2_ w w6) (ps := [VI 5]) (by kernel_rfl) ?_ ?_ rfl hS ⟨bb.1, (bR w6)⟩ ?_ ?_
 ·exact bs2
 ·exact .v (.nil)
 ·refine .on rfl (fun a w hS hI hp => does_val (x_assign rfl (rfl)) rfl) ?_
  exact .nil
 clear hS
 intro bi bj hS aW hp
 have aT : sl _ 4 = .int .i64 5 := hp 0 (by decide)
 have hS := hS.cons aT
 clear hp aT
 refine a6 _ _ ?_
 refine wp_block ?_
 replace hS := (((hS.nil).cons (hS.get 0 rfl)).cons (hS.get 1 rfl)).cons (hS.get 2 rfl)
 refine wp_loop_ghost (fun n_ a_ ak => ∃ (ab : Int) (ac : List Int) (ae : Option Addr) (ad : Nat) (aa : Int), carillonlaw04_IdentMacs_1.l1 k n_ ab ac aa = some r ∧ St 19 [(0, .int .u64 ab), (3, .slice ae ac.length ad), (4, .int .i64 aa)] a_ ∧ Below w.heap.size w ak ∧ ac.length ≤ ad ∧ Kd.R (Kd.int .u8) 5 ak w.heap.size (fun _ => True) (.slice ae ac.length ad) ac) k ⟨a0, [], none, 0, 5, H, hS, aW.1, (Nat.le_refl _), (Kd.R_nil _ _ _ _ _)⟩ ?_
 clear H hS
 rintro n1 bf ak ⟨ab, ac, ae, ad, aa, H, hS, aq, bd, ax⟩
 rcases n1 with _ | n1
 ·exact absurd H (by simp [carillonlaw04_IdentMacs_1.l1])
 rw [carillonlaw04_IdentMacs_1.l1] at H
 (try dsimp only at H)
 by_cases c1 : aa ≥ 0
 rotate_left
 ·rw [if_neg c1] at H
  obtain rfl := Option.some.inj H
  refine wp_seq_k (fun aN aw => ?_)
  refine wp_seq_k (fun aO ao => ?_)
  refine reg_seq (I := I2_ w ak) (ps := [VI aa, VB (decide (aa ≥ 0))]) (by kernel_rfl) ?_ ?_ rfl hS ⟨aq, (bR ak)⟩ ?_ ?_
  ·exact bs2
  ·exact .v (.v (.nil))
  ·refine .ms 2 rfl rfl rfl ?_
   refine .on rfl (fun a w hS hI hp => does_val (x_bin rfl (hp.V 0 rfl rfl) (rfl) (b_geq _ _ _ _ _ _)) rfl) ?_
   exact .nil
  clear hS
  intro aE af hS ag hp
  have ay : sl _ 6 = .bool (decide (aa ≥ 0)) := hp 1 (by decide)
  have hS := hS.cons ay
  clear hp ay
  refine ao _ _ ?_
  refine wp_cond_false ((hS.get 0 rfl).trans (bF (decide_eq_false c1))) ?_
  refine wp_exit ?_
  (try simp only [Exit.then, Exit.inBlock, reduceIte])
  refine a5 _ _ ?_
  refine wp_seq_k (fun aP ap => ?_)
  refine reg_seq (I := I3_ w ak af) (ps := [IsV (.slice ae ac.length ad), IsV (.slice ae ac.length ad)]) (by kernel_rfl) ?_ ?_ rfl hS ⟨ag.1, ag.2, (bR af)⟩ ?_ ?_
  ·exact bs3
  ·exact .v (.v (.nil))
  ·refine .ms 2 rfl rfl rfl ?_
   refine .asg 0 rfl rfl rfl rfl ?_
   exact .nil
  clear hS
  intro aF an hS ah hp
  replace hS := hS.nil
  have aR : sl _ 2 = .slice ae ac.length ad := hp 1 (by decide)
  have hS := hS.cons aR
  clear hp aR
  refine ap _ _ ?_
  refine wp_ret ?_
  (try simp only [Exit.then, Exit.inBlock, Exit.jump, Exit.noGoto])
  exact bodyPost_ret (v := .slice ae ac.length ad) (results_single rfl (Vals.at (hS.get 0 rfl) .nil)) hS.nodef ⟨.slice ae ac.length ad, rfl, Kd.R_lower (Kd.R_below ax ah.2.1) (Nat.le_refl _), ah.1⟩
 rw [if_pos c1] at H
 by_cases c2 : 0 ≤ (IntKind.u64.wrap (wrap64 (8 * aa)))
 rotate_left
 ·rw [if_neg c2] at H
  exact absurd H (by simp)
 rw [if_pos c2] at H
 by_cases c3 : (ac.length + [IntKind.u8.wrap (shr .u64 ab (IntKind.u64.wrap (wrap64 (8 * aa))))].length) * 1 ≤ 140737488355328
 rotate_left
 ·rw [if_neg c3] at H
  exact absurd H (by simp)
 rw [if_pos c3] at H
 refine wp_seq_k (fun aN aw => ?_)
 refine wp_seq_k (fun aO ao => ?_)
 refine reg_seq (I := I2_ w ak) (ps := [VI aa, VB (decide (aa ≥ 0))]) (by kernel_rfl) ?_ ?_ rfl hS ⟨aq, (bR ak)⟩ ?_ ?_
 ·exact bs2
 ·exact .v (.v (.nil))
 ·refine .ms 2 rfl rfl rfl ?_
  refine .on rfl (fun a w hS hI hp => does_val (x_bin rfl (hp.V 0 rfl rfl) (rfl) (b_geq _ _ _ _ _ _)) rfl) ?_
  exact .nil
 clear hS
 intro aE af hS ag hp
 have ay : sl _ 6 = .bool (decide (aa ≥ 0)) := hp 1 (by decide)
 have hS := hS.cons ay
 clear hp ay
 refine ao _ _ ?_
 refine wp_cond_true ((hS.get 0 rfl).trans (bT (decide_eq_true c1))) ?_
 refine wp_skip ?_
 refine aw _ _ ?_
 refine wp_seq_k (fun aP ap => ?_)
 refine wp_block ?_
 refine reg_seq_tail 8 (I := I3_ w ak af) (ps := [IsV (.slice ae ac.length ad), IsV (.int .u64 ab), VI aa, VI (wrap64 (8 * aa)), IsV (.int .u64 (IntKind.u64.wrap (wrap64 (8 * aa)))), IsV (.int .u64 (shr .u64 ab (IntKind.u64.wrap (wrap64 (8 * aa))))), IsV (.int .u8 (IntKind.u8.wrap (shr .u64 ab (IntKind.u64.wrap (wrap64 (8 * aa)))))), IsR (Kd.int .u8) 5 af.heap.size [IntKind.u8.wrap (shr .u64 ab (IntKind.u64.wrap (wrap64 (8 * aa))))]]) (by kernel_rfl) ?_ ?_ rfl hS ⟨ag.1, ag.2, (bR af)⟩ ?_ ?_
 ·exact bs3
 ·exact .v (.v (.v (.v (.v (.v (.v (.cons (Stays.r _ _ _ _) (.nil))))))))
 ·refine .ms 2 rfl rfl rfl ?_
  refine .ms 1 rfl rfl rfl ?_
  refine .ms 3 rfl rfl rfl ?_
  refine .on rfl (fun a w hS hI hp => does_val (x_bin rfl (rfl) (hp.V 2 rfl rfl) (b_mul _ _ _ _ _)) rfl) ?_
  refine .on rfl (fun a w hS hI hp => does_val (x_convI rfl (by kernel_rfl) (by kernel_rfl) (hp.V 3 rfl rfl)) rfl) ?_
  refine .on rfl (fun a w hS hI hp => does_val (x_bin rfl (hp.V 1 rfl rfl) (hp.V 4 rfl rfl) (b_shr _ _ _ _ _ _ _ c2)) rfl) ?_
  refine .on rfl (fun a w hS hI hp => does_val (x_convI rfl (by kernel_rfl) (by kernel_rfl) (hp.V 5 rfl rfl)) rfl) ?_
  refine .on rfl (fun a w hS hI hp => does_lit af.heap.size 23 5 1 _ [(0, .int .u8 (IntKind.u8.wrap (shr .u64 ab (IntKind.u64.wrap (wrap64 (8 * aa))))))] [IntKind.u8.wrap (shr .u64 ab (IntKind.u64.wrap (wrap64 (8 * aa))))] rfl (by kernel_rfl) (by rw [Array.toList_map]; exact (show [(0, a.eval (.tmp 15))] = _ from (li_cons (hp.V 6 rfl rfl) rfl))) (by kernel_rfl) rfl (hI.2.2).size (Nat.le_of_ble_eq_true rfl)) ?_
  exact .nil
 clear hS
 intro aF an hS ah hp
 replace hS := (((hS.nil).cons (hS.get 3 rfl)).cons (hS.get 2 rfl)).cons (hS.get 1 rfl)
 have aV : sl _ 9 = .slice ae ac.length ad := hp 0 (by decide)
 obtain ⟨aL, aM, aA, a8, aG⟩ := Kd.R_reads (show Kd.R (Kd.int .u8) 5 an af.heap.size (fun _ => True) (sl _ 16) [IntKind.u8.wrap (shr .u64 ab (IntKind.u64.wrap (wrap64 (8 * aa))))] from hp 7 (by decide))
 have a9 : Kd.R (Kd.int .u8) 5 an af.heap.size (fun _ => True) (.slice aL [IntKind.u8.wrap (shr .u64 ab (IntKind.u64.wrap (wrap64 (8 * aa))))].length aM) [IntKind.u8.wrap (shr .u64 ab (IntKind.u64.wrap (wrap64 (8 * aa))))] := aA ▸ (hp 7 (by decide))
 have hS := hS.cons aV
 have hS := hS.cons aA
 clear hp aV aA
 show wpList _ _ _ [_, _] _ _
 refine list_step rfl (does_more (W := w) (.tmp 9) (.tmp 16) 23 5 1 rfl (by kernel_rfl) (by kernel_rfl) (by decide) _ ac [IntKind.u8.wrap (shr .u64 ab (IntKind.u64.wrap (wrap64 (8 * aa))))] _ _ (hS.get 1 rfl) (hS.get 0 rfl) (Kd.R_below ax ah.2.1) (Kd.C_below aG (bR an)) ah.1 c3) ?_
 rintro bc aB ⟨hb, hr, hk⟩
 clear hk
 have ar := hb
 replace hS := ((hS.nil).cons (hS.get 4 rfl)).cons (hS.get 2 rfl)
 obtain ⟨ai, aj, rfl, aH, a7⟩ := Kd.R_reads hr
 have aI := hr
 clear hr
 refine hS.next (v := .slice ai ((ac ++ [IntKind.u8.wrap (shr .u64 ab (IntKind.u64.wrap (wrap64 (8 * aa))))] : List Int).length) aj) (d := 17) rfl (by decide) (by rfl) ?_
 clear hS
 intro aY hS
 refine list_step rfl (R := fun v w' => Below _ _ w' ∧ (IsV (.slice ai ((ac ++ [IntKind.u8.wrap (shr .u64 ab (IntKind.u64.wrap (wrap64 (8 * aa))))] : List Int).length) aj)) v w') (does_val (x_assign rfl (hS.get 0 rfl)) rfl) ?_
 rintro aJ aC ⟨hb, he⟩
 have au := below_step ar hb
 have al := below_step (bR aB) hb
 obtain rfl : aJ = .slice ai ((ac ++ [IntKind.u8.wrap (shr .u64 ab (IntKind.u64.wrap (wrap64 (8 * aa))))] : List Int).length) aj := he
 refine hS.next (v := .slice ai ((ac ++ [IntKind.u8.wrap (shr .u64 ab (IntKind.u64.wrap (wrap64 (8 * aa))))] : List Int).length) aj) (d := 3) rfl (by decide) (by rfl) ?_
 clear hS
 intro aZ hS
 refine wpList_nil ?_
 refine ap _ _ ?_
 refine reg_seq_tail 2 (I := I3_ w aB aC) (ps := [VI aa, VI (wrap64 (aa - 1))]) (by kernel_rfl) ?_ ?_ rfl hS ⟨au, al, (bR aC)⟩ ?_ ?_
 ·exact bs3
 ·exact .v (.v (.nil))
 ·refine .ms 3 rfl rfl rfl ?_
  refine .on rfl (fun a w hS hI hp => does_val (x_bin rfl (hp.V 0 rfl rfl) (rfl) (b_sub _ _ _ _ _)) rfl) ?_
  exact .nil
 clear hS
 intro a1 aQ hS az hp
 replace hS := (((hS.nil).cons (hS.get 3 rfl)).cons (hS.get 2 rfl)).cons (hS.get 0 rfl)
 have aU : sl _ 8 = .int .i64 (wrap64 (aa - 1)) := hp 1 (by decide)
 have hS := hS.cons aU
 clear hp aU
 show wpList _ _ _ [_] _ _
 refine list_step rfl (R := fun v w' => Below _ _ w' ∧ (VI (wrap64 (aa - 1))) v w') (does_val (x_assign rfl (hS.get 0 rfl)) rfl) ?_
 rintro aK be ⟨hb, he⟩
 have av := below_step az.1 hb
 have am := below_step az.2.1 hb
 have aD := below_step (bR aQ) hb
 obtain rfl : aK = .int .i64 (wrap64 (aa - 1)) := he
 replace hS := (((hS.nil).cons (hS.get 2 rfl)).cons (hS.get 1 rfl)).cons (hS.get 0 rfl)
 refine hS.next (v := .int .i64 (wrap64 (aa - 1))) (d := 4) rfl (by decide) (by rfl) ?_
 clear hS
 intro a2 hS
 refine wpList_nil ?_
 replace hS := (((hS.nil).cons (hS.get 0 rfl)).cons (hS.get 2 rfl)).cons (hS.get 3 rfl)
 (try simp only [Exit.then, Exit.inBlock])
 exact ⟨n1, Nat.lt_succ_self _, ab, (ac ++ [IntKind.u8.wrap (shr .u64 ab (IntKind.u64.wrap (wrap64 (8 * aa))))] : List Int), ai, aj, wrap64 (aa - 1), H, hS, av, aH, (Kd.R_lower (Kd.R_below aI am) (Nat.le_refl _))⟩
/-! ### octets_none: function 36 -/
def octets_none.f (l0 : List Int) (a1 : Int) (a2 : Int) : Option (Bool) := if a2 < 0 then (some true) else (if a1 < 0 then (some true) else (if a1 > (l0.length : Int) then (some true) else (some (decide (a2 > (wrap64 ((l0.length : Int) - a1)))))))
set_option maxHeartbeats 8000000 in
set_option maxRecDepth 100000 in
theorem octets_none.calls (A0 : Option Addr) (c0 : Nat) (l0 : List Int) (a1 : Int) (a2 : Int) (r : Bool) (w : World) (hr0 : Kd.C (Kd.int .u8) w A0 l0.length l0) (hc0 : l0.length ≤ c0) (h : octets_none.f l0 a1 a2 = some r) :
    Calls Try.prog 36 #[.slice A0 l0.length c0, .int .i64 a1, .int .i64 a2] w fun e w' => e = .returned (.bool r) ∧ Drawn0 w w' := by
  have HR0 := Aside0.mk hr0
  have HC0 := Aside0.mk hc0
  clear hr0 hc0
  have H : (if a2 < 0 then (some true) else (if a1 < 0 then (some true) else (if a1 > (l0.length : Int) then (some true) else (some (decide (a2 > (wrap64 ((l0.length : Int) - a1)))))))) = some r := h
  clear h
  by_cases c4 : a2 < 0
  · rw [if_pos c4] at H
    have c4b0 : decide (a2 < 0) = true := decide_eq_true c4
    clear c4
    obtain rfl := Option.some.inj H
    go_enter Try.func36, Try.ntmps36
    go_wp2
    all_goals
      go_ret
      exact ⟨by first | rfl | (simp; done) | (simp [*]; done), by repeat (first | exact Drawn0.refl _ | apply Drawn0.step)⟩
  · rw [if_neg c4] at H
    have c4b0 : decide (a2 < 0) = false := decide_eq_false c4
    clear c4
    by_cases c5 : a1 < 0
    · rw [if_pos c5] at H
      have c5b0 : decide (a1 < 0) = true := decide_eq_true c5
      clear c5
      obtain rfl := Option.some.inj H
      go_enter Try.func36, Try.ntmps36
      go_wp2
      all_goals
        go_ret
        exact ⟨by first | rfl | (simp; done) | (simp [*]; done), by repeat (first | exact Drawn0.refl _ | apply Drawn0.step)⟩
    · rw [if_neg c5] at H
      have c5b0 : decide (a1 < 0) = false := decide_eq_false c5
      clear c5
      by_cases c6 : a1 > (l0.length : Int)
      · rw [if_pos c6] at H
        have c6b0 : decide ((l0.length : Int) < a1) = true := decide_eq_true c6
        clear c6
        obtain rfl := Option.some.inj H
        go_enter Try.func36, Try.ntmps36
        go_wp2
        all_goals
          go_ret
          exact ⟨by first | rfl | (simp; done) | (simp [*]; done), by repeat (first | exact Drawn0.refl _ | apply Drawn0.step)⟩
      · rw [if_neg c6] at H
        have c6b0 : decide ((l0.length : Int) < a1) = false := decide_eq_false c6
        clear c6
        obtain rfl := Option.some.inj H
        go_enter Try.func36, Try.ntmps36
        go_wp2
        all_goals
          go_ret
          exact ⟨by first | rfl | (simp; done) | (simp [*]; done), by repeat (first | exact Drawn0.refl _ | apply Drawn0.step)⟩
/-! ### octets_read: function 37 -/
def octets_read.l0 : Nat → Int → List Int → Int → Int → Option (Int)
  | 0, _, _, _, _ => none
  | k + 1, x3, x6, x7, x8 => if x8 < x7 then (if 0 ≤ x8 then (if x8 < (x6.length : Int) then (octets_read.l0 k (Go.bits .or .u64 (IntKind.u64.wrap (x3 * 256)) (IntKind.u64.wrap (rd x6 x8))) x6 x7 (wrap64 (x8 + 1))) else (none)) else (none)) else (some x3)
def octets_read.f (k : Nat) (l0 : List Int) : Option (Int) := octets_read.l0 k 0 l0 (l0.length : Int) 0
set_option maxHeartbeats 8000000 in
set_option maxRecDepth 100000 in
theorem octets_read.calls (k : Nat) (A0 : Option Addr) (c0 : Nat) (l0 : List Int) (r : Int) (w : World) (hr0 : Kd.C (Kd.int .u8) w A0 l0.length l0) (hc0 : l0.length ≤ c0) (h : octets_read.f k l0 = some r) :
    Calls Try.prog 37 #[.slice A0 l0.length c0] w fun e w' => e = .returned (.int .u64 r) ∧ Drawn0 w w' := by
  have HR0 := Aside0.mk hr0
  have HC0 := Aside0.mk hc0
  clear hr0 hc0
  have H : (octets_read.l0 k 0 l0 (l0.length : Int) 0) = some r := h
  clear h
  have H' := Aside0.mk H
  clear H
  go_enter Try.func37, Try.ntmps37
  go_wp2
  go_loopg [3, 8] k (fun kq v3 v8 w' => ∃ (x3_1 : Int) (x8_1 : Int), v3 = .int .u64 x3_1 ∧ v8 = .int .i64 x8_1 ∧ Aside0 (octets_read.l0 kq x3_1 l0 (l0.length : Int) x8_1 = some r) ∧ Aside0 (kq ≤ k) ∧ Drawn0 w w')
  case atStart => exact ⟨(0), (0), (by first | rfl | (simp; done) | (simp [*]; done)), (by first | rfl | (simp; done) | (simp [*]; done)), H', ⟨Nat.le_refl _⟩, by repeat (first | exact Drawn0.refl _ | apply Drawn0.step)⟩
  case round =>
    clear H'
    obtain ⟨x3_1, x8_1, rfl, rfl, HA, HK1, ⟨m1, rfl⟩⟩ := hrel
    cases gk with
    | zero => exact absurd HA.out (by simp [octets_read.l0])
    | succ k1 =>
      have H := HA.out
      clear HA
      simp only [octets_read.l0] at H
      by_cases c2 : x8_1 < (l0.length : Int)
      · rw [if_pos c2] at H
        have c2b0 : decide (x8_1 < (l0.length : Int)) = true := decide_eq_true c2
        clear c2
        by_cases c3 : 0 ≤ x8_1
        · rw [if_pos c3] at H
          have c3b0 : decide (0 ≤ x8_1) = true := decide_eq_true c3
          clear c3
          by_cases c4 : x8_1 < (l0.length : Int)
          · rw [if_pos c4] at H
            have c4b0 : decide (x8_1 < (l0.length : Int)) = true := decide_eq_true c4
            clear c4
            have H' := Aside0.mk H
            clear H
            have p101 : 0 ≤ (x8_1 : Int) := of_decide_eq_true (by first | (with_reducible assumption) | assumption)
            have q101 : x8_1 < (l0.length : Int) := of_decide_eq_true (by first | (with_reducible assumption) | assumption)
            obtain ⟨ad101, e101, hx101_0⟩ := Kd.at_int HR0.out x8_1 p101 q101
            cases e101
            replace p101 := eq_true p101
            replace q101 := eq_true q101
            go_wp2
            go_roundg k1
            case measure => have := HK1.out; omega
            case rel => exact ⟨(Go.bits .or .u64 (IntKind.u64.wrap (x3_1 * 256)) (IntKind.u64.wrap (rd l0 x8_1))), (wrap64 (x8_1 + 1)), (by first | rfl | (simp; done) | (simp [*]; done)), (by first | rfl | (simp; done) | (simp [*]; done)), H', ⟨by have := HK1.out; omega⟩, by repeat (first | exact Drawn0.refl _ | apply Drawn0.step)⟩
          · rw [if_neg c4] at H
            exact absurd H (by simp)
        · rw [if_neg c3] at H
          exact absurd H (by simp)
      · rw [if_neg c2] at H
        have c2b0 : decide (x8_1 < (l0.length : Int)) = false := decide_eq_false c2
        clear c2
        obtain rfl := Option.some.inj H
        go_wp2
        all_goals
          go_ret
          exact ⟨by first | rfl | (simp; done) | (simp [*]; done), by repeat (first | exact Drawn0.refl _ | apply Drawn0.step)⟩
/-! ### octets_Signed: function 35 -/
def octets_Signed.f (k : Nat) (l0 : List Int) (a1 : Int) (a2 : Int) : Option (Int × Bool) := if a2 < 1 then (some (0, false)) else (if a2 > 8 then (some (0, false)) else ((octets_none.f l0 a1 a2).bind fun t102 => (if t102 = true then (some (0, false)) else (if 0 ≤ a1 then (if a1 ≤ (wrap64 (a1 + a2)) then (if (wrap64 (a1 + a2)) ≤ (l0.length : Int) then ((octets_read.f k ((l0.take ((wrap64 (a1 + a2)) : Int).toNat).drop (a1 : Int).toNat)).bind fun t104 => (if 0 ≤ (wrap64 (64 - (wrap64 (8 * a2)))) then (some (shr .i64 (wrap64 (shl .u64 t104 (wrap64 (64 - (wrap64 (8 * a2)))))) (wrap64 (64 - (wrap64 (8 * a2)))), true)) else (none))) else (none)) else (none)) else (none)))))
set_option maxHeartbeats 8000000 in
set_option maxRecDepth 100000 in
theorem octets_Signed.calls (k : Nat) (A0 : Option Addr) (c0 : Nat) (l0 : List Int) (a1 : Int) (a2 : Int) (r1 : Int) (r2 : Bool) (w : World) (hr0 : Kd.C (Kd.int .u8) w A0 l0.length l0) (hc0 : l0.length ≤ c0) (h : octets_Signed.f k l0 a1 a2 = some (r1, r2)) :
    Calls Try.prog 35 #[.slice A0 l0.length c0, .int .i64 a1, .int .i64 a2] w fun e w' => e = .returned (.tuple #[.int .i64 r1, .bool r2]) ∧ Drawn0 w w' := by
  have HR0 := Aside0.mk hr0
  have HC0 := Aside0.mk hc0
  clear hr0 hc0
  have H : (if a2 < 1 then (some (0, false)) else (if a2 > 8 then (some (0, false)) else ((octets_none.f l0 a1 a2).bind fun t102 => (if t102 = true then (some (0, false)) else (if 0 ≤ a1 then (if a1 ≤ (wrap64 (a1 + a2)) then (if (wrap64 (a1 + a2)) ≤ (l0.length : Int) then ((octets_read.f k ((l0.take ((wrap64 (a1 + a2)) : Int).toNat).drop (a1 : Int).toNat)).bind fun t104 => (if 0 ≤ (wrap64 (64 - (wrap64 (8 * a2)))) then (some (shr .i64 (wrap64 (shl .u64 t104 (wrap64 (64 - (wrap64 (8 * a2)))))) (wrap64 (64 - (wrap64 (8 * a2)))), true)) else (none))) else (none)) else (none)) else (none)))))) = some (r1, r2) := h
  clear h
  by_cases c4 : a2 < 1
  · rw [if_pos c4] at H
    have c4b0 : decide (a2 < 1) = true := decide_eq_true c4
    clear c4
    simp only [Option.some.injEq, Prod.mk.injEq] at H
    obtain ⟨rfl, rfl⟩ := H
    go_enter Try.func35, Try.ntmps35
    go_wp2
    go_ret2
    exact ⟨by first | rfl | (simp; done) | (simp [*]; done), by repeat (first | exact Drawn0.refl _ | apply Drawn0.step)⟩
  · rw [if_neg c4] at H
    have c4b0 : decide (a2 < 1) = false := decide_eq_false c4
    clear c4
    by_cases c5 : a2 > 8
    · rw [if_pos c5] at H
      have c5b0 : decide (8 < a2) = true := decide_eq_true c5
      clear c5
      simp only [Option.some.injEq, Prod.mk.injEq] at H
      obtain ⟨rfl, rfl⟩ := H
      go_enter Try.func35, Try.ntmps35
      go_wp2
      go_ret2
      exact ⟨by first | rfl | (simp; done) | (simp [*]; done), by repeat (first | exact Drawn0.refl _ | apply Drawn0.step)⟩
    · rw [if_neg c5] at H
      have c5b0 : decide (8 < a2) = false := decide_eq_false c5
      clear c5
      replace H := Option.bind_eq_some_iff.mp H
      obtain ⟨t102, A60, H⟩ := H
      replace H : (if t102 = true then (some (0, false)) else (if 0 ≤ a1 then (if a1 ≤ (wrap64 (a1 + a2)) then (if (wrap64 (a1 + a2)) ≤ (l0.length : Int) then ((octets_read.f k ((l0.take ((wrap64 (a1 + a2)) : Int).toNat).drop (a1 : Int).toNat)).bind fun t104 => (if 0 ≤ (wrap64 (64 - (wrap64 (8 * a2)))) then (some (shr .i64 (wrap64 (shl .u64 t104 (wrap64 (64 - (wrap64 (8 * a2)))))) (wrap64 (64 - (wrap64 (8 * a2)))), true)) else (none))) else (none)) else (none)) else (none))) = some (r1, r2) := H
      have A6 := Aside0.mk A60
      clear A60
      by_cases c7 : t102 = true
      · subst c7
        have H1 : (some (0, false)) = some (r1, r2) := by rw [if_pos rfl] at H; exact H
        clear H
        have H := H1
        clear H1
        simp only [Option.some.injEq, Prod.mk.injEq] at H
        obtain ⟨rfl, rfl⟩ := H
        go_enter Try.func35, Try.ntmps35
        go_wp2_with (first | (go_at_call 36; (with_reducible refine (octets_none.calls _ _ l0 a1 a2 true _ ?side1 ?side2 A6.out).mono ?_); (case side1 => repeat (first | exact HR0.out | (with_reducible refine Kd.C_alloc ?_ _) | (with_reducible refine Kd.C_drewN ?_ _) | (with_reducible refine Kd.C_drew ?_))); (case side2 => exact HC0.out); rintro e w' ⟨rfl, ⟨nd, rfl⟩⟩))
        go_ret2
        exact ⟨by first | rfl | (simp; done) | (simp [*]; done), by repeat (first | exact Drawn0.refl _ | apply Drawn0.step)⟩
      · replace c7 := Bool.eq_false_iff.mpr c7
        subst c7
        have H1 : (if 0 ≤ a1 then (if a1 ≤ (wrap64 (a1 + a2)) then (if (wrap64 (a1 + a2)) ≤ (l0.length : Int) then ((octets_read.f k ((l0.take ((wrap64 (a1 + a2)) : Int).toNat).drop (a1 : Int).toNat)).bind fun t104 => (if 0 ≤ (wrap64 (64 - (wrap64 (8 * a2)))) then (some (shr .i64 (wrap64 (shl .u64 t104 (wrap64 (64 - (wrap64 (8 * a2)))))) (wrap64 (64 - (wrap64 (8 * a2)))), true)) else (none))) else (none)) else (none)) else (none)) = some (r1, r2) := by rw [if_neg (show ¬ (false = true) by decide)] at H; exact H
        clear H
        have H := H1
        clear H1
        by_cases c8 : 0 ≤ a1
        · rw [if_pos c8] at H
          have c8b0 := eq_true c8
          have c8b1 : decide (0 ≤ a1) = true := decide_eq_true c8
          clear c8
          by_cases c9 : a1 ≤ (wrap64 (a1 + a2))
          · rw [if_pos c9] at H
            have c9b0 := eq_true c9
            have c9b1 : decide (a1 ≤ (wrap64 (a1 + a2))) = true := decide_eq_true c9
            by_cases c10 : (wrap64 (a1 + a2)) ≤ (l0.length : Int)
            · rw [if_pos c10] at H
              have c10b0 := eq_true c10
              have c10b1 : decide ((wrap64 (a1 + a2)) ≤ (l0.length : Int)) = true := decide_eq_true c10
              replace H := Option.bind_eq_some_iff.mp H
              obtain ⟨t104, A110, H⟩ := H
              replace H : (if 0 ≤ (wrap64 (64 - (wrap64 (8 * a2)))) then (some (shr .i64 (wrap64 (shl .u64 t104 (wrap64 (64 - (wrap64 (8 * a2)))))) (wrap64 (64 - (wrap64 (8 * a2)))), true)) else (none)) = some (r1, r2) := H
              have A11 := Aside0.mk A110
              clear A110
              obtain ⟨ji12, hji12⟩ : ∃ j_ : Int, (wrap64 (64 - (wrap64 (8 * a2)))) = j_ := ⟨_, rfl⟩
              replace H : (if 0 ≤ (ji12) then (some (shr .i64 (wrap64 (shl .u64 t104 (ji12))) (ji12), true)) else (none)) = some (r1, r2) := by first | (rw [hji12] at H; exact H) | (simp only [hji12] at H ⊢; exact H)
              (try rw [hji12] at A6)
              (try rw [hji12] at A11)
              have hji12w : (IntKind.i64.wrap (64 - (wrap64 (8 * a2)))) = ji12 := (i64_w _).trans hji12
              by_cases c13 : 0 ≤ (ji12)
              · rw [if_pos c13] at H
                have c13b0 := eq_true c13
                have c13b1 : decide (0 ≤ (ji12)) = true := decide_eq_true c13
                clear c13
                obtain ⟨ji14, hji14⟩ : ∃ j_ : Int, (shl .u64 t104 (ji12)) = j_ := ⟨_, rfl⟩
                replace H : (some (shr .i64 (wrap64 (ji14)) (ji12), true)) = some (r1, r2) := by first | (rw [hji14] at H; exact H) | (simp only [hji14] at H ⊢; exact H)
                (try rw [hji14] at A6)
                (try rw [hji14] at A11)
                have hji14_ : (IntKind.u64.wrap (t104 * 2 ^ min (ji12).toNat 64)) = ji14 := hji14
                have hji14z : (ji12) ≤ 64 → (IntKind.u64.wrap (t104 * 2 ^ (ji12).toNat)) = ji14 := shl_small hji14
                have c15b0 := eq_true (of_decide_eq_true (by first | (with_reducible assumption) | assumption) : 0 ≤ (ji12))
                obtain ⟨ji16, hji16⟩ : ∃ j_ : Int, (shr .i64 (wrap64 (ji14)) (ji12)) = j_ := ⟨_, rfl⟩
                replace H : (some (ji16, true)) = some (r1, r2) := by first | (rw [hji16] at H; exact H) | (simp only [hji16] at H ⊢; exact H)
                (try rw [hji16] at A6)
                (try rw [hji16] at A11)
                have hji16_ : ((wrap64 (ji14)) / 2 ^ min (ji12).toNat 64) = ji16 := hji16
                have hji16z : (ji12) ≤ 64 → ((wrap64 (ji14)) / 2 ^ (ji12).toNat) = ji16 := shr_small hji16
                simp only [Option.some.injEq, Prod.mk.injEq] at H
                obtain ⟨rfl, rfl⟩ := H
                go_enter Try.func35, Try.ntmps35
                go_wp2_with (first | (go_at_call 36; (with_reducible refine (octets_none.calls _ _ l0 a1 a2 false _ ?side1 ?side2 A6.out).mono ?_); (case side1 => repeat (first | exact HR0.out | (with_reducible refine Kd.C_alloc ?_ _) | (with_reducible refine Kd.C_drewN ?_ _) | (with_reducible refine Kd.C_drew ?_))); (case side2 => exact HC0.out); rintro e w' ⟨rfl, ⟨nd, rfl⟩⟩; obtain ⟨i017, hi017, _, hsz17, _⟩ := info_parts info5; obtain ⟨A17, hcut17, hA17, hC17⟩ := print_mid_of (P := Try.prog) (Value.int .u8) 0 23 5 .i64 .i64 Try.underlying23 hi017 hsz17 A0 c0 l0 a1 (wrap64 (a1 + a2)) (of_decide_eq_true (by first | (with_reducible assumption) | assumption)) (by first | omega | exact of_decide_eq_true (by first | (with_reducible assumption) | assumption)) (of_decide_eq_true (by first | (with_reducible assumption) | assumption)) HC0.out; have HR103 := Aside0.mk (Kd.C_of_reads (h1 := fun _ => rfl) (hA17 _ (Kd.reads_of_C HR0.out))); have HC103 := Aside0.mk hC17; clear hA17 hC17 hi017 hsz17) | ((with_reducible refine gate_callee (f := 37) rfl ?_); refine goesL_ (some 30) rfl rfl Try.func37 (by kernel_rfl) rfl #[.slice A17 ((l0.take ((wrap64 (a1 + a2)) : Int).toNat).drop (a1 : Int).toNat).length (c0 - a1.toNat)] rfl (by (try simp only [List.map_toArray, List.map_cons, List.map_nil]); first | done | (rw [show ((l0.take ((wrap64 (a1 + a2)) : Int).toNat).drop (a1 : Int).toNat).length = ((wrap64 (a1 + a2)).toNat - a1.toNat) from (by rw [List.length_drop, List.length_take]; have h_ : ((wrap64 (a1 + a2)) : Int) ≤ (l0.length : Int) := of_decide_eq_true (by first | (with_reducible assumption) | assumption); omega)] <;> rfl) | rfl | (simp only [List.length_drop, List.length_take]; rfl)) ?_; (with_reducible refine (octets_read.calls k _ _ ((l0.take ((wrap64 (a1 + a2)) : Int).toNat).drop (a1 : Int).toNat) t104 _ ?side1 ?side2 A11.out).mono ?_); (case side1 => repeat (first | exact HR103.out | (with_reducible refine Kd.C_alloc ?_ _) | (with_reducible refine Kd.C_drewN ?_ _) | (with_reducible refine Kd.C_drew ?_))); (case side2 => exact HC103.out); rintro e w' ⟨rfl, ⟨nd, rfl⟩⟩; refine ⟨_, rfl, ?_⟩))
                go_ret2
                exact ⟨by first | rfl | (simp; done) | (simp only [← hji12, ← hji14, ← hji16] <;> (first | rfl | simp)) | (simp [*]; done), by repeat (first | exact Drawn0.refl _ | apply Drawn0.step)⟩
              · rw [if_neg c13] at H
                exact absurd H (by simp)
            · rw [if_neg c10] at H
              exact absurd H (by simp)
          · rw [if_neg c9] at H
            exact absurd H (by simp)
        · rw [if_neg c8] at H
          exact absurd H (by simp)
/-! ### octets_GetId: function 24 -/
def octets_GetId.f (k : Nat) (l0 : List Int) (a1 : Int) : Option (Int × Bool) := (octets_Signed.f k l0 a1 8).bind fun bt105 => (some (IntKind.u64.wrap (bt105.1), bt105.2))
set_option maxHeartbeats 8000000 in
set_option maxRecDepth 100000 in
theorem octets_GetId.calls (k : Nat) (A0 : Option Addr) (c0 : Nat) (l0 : List Int) (a1 : Int) (r1 : Int) (r2 : Bool) (w : World) (hr0 : Kd.C (Kd.int .u8) w A0 l0.length l0) (hc0 : l0.length ≤ c0) (h : octets_GetId.f k l0 a1 = some (r1, r2)) :
    Calls Try.prog 24 #[.slice A0 l0.length c0, .int .i64 a1] w fun e w' => e = .returned (.tuple #[.int .u64 r1, .bool r2]) ∧ Drawn0 w w' := by
  have HR0 := Aside0.mk hr0
  have HC0 := Aside0.mk hc0
  clear hr0 hc0
  have H : ((octets_Signed.f k l0 a1 8).bind fun bt105 => (some (IntKind.u64.wrap (bt105.1), bt105.2))) = some (r1, r2) := h
  clear h
  replace H := Option.bind_eq_some_iff.mp H
  obtain ⟨⟨t105, t106⟩, A30, H⟩ := H
  replace H : (some (IntKind.u64.wrap (t105), t106)) = some (r1, r2) := H
  have A3 := Aside0.mk A30
  clear A30
  simp only [Option.some.injEq, Prod.mk.injEq] at H
  obtain ⟨rfl, rfl⟩ := H
  go_enter Try.func24, Try.ntmps24
  go_wp2_with (first | ((with_reducible refine gate_callee (f := 35) rfl ?_); refine goesL_ (some 11) rfl rfl Try.func35 (by kernel_rfl) rfl #[.slice A0 l0.length c0, .int .i64 a1, .int .i64 8] rfl (by (try simp only [List.map_toArray, List.map_cons, List.map_nil]); first | done | rfl | (simp only [List.length_drop, List.length_take]; rfl)) ?_; (with_reducible refine (octets_Signed.calls k _ _ l0 a1 8 t105 t106 _ ?side1 ?side2 A3.out).mono ?_); (case side1 => repeat (first | exact HR0.out | (with_reducible refine Kd.C_alloc ?_ _) | (with_reducible refine Kd.C_drewN ?_ _) | (with_reducible refine Kd.C_drew ?_))); (case side2 => exact HC0.out); rintro e w' ⟨rfl, ⟨nd, rfl⟩⟩; refine ⟨_, rfl, ?_⟩))
  go_ret2
  exact ⟨by first | rfl | (simp; done) | (simp [*]; done), by repeat (first | exact Drawn0.refl _ | apply Drawn0.step)⟩
/-! ### ident_FromMac: function 10 -/
def ident_FromMac.f (k : Nat) (l0 : List Int) : Option (Int × Bool) := if (l0.length : Int) = 6 then (if 3 ≤ (l0.length : Int) then (if ([] : List Int).length + (l0.take 3).length < 140737488355328 then ((some (([] : List Int) ++ (l0.take 3) : List Int)).bind fun y108 => ((some (([255, 254] : List Int) : List Int)).bind fun y111 => (if y108.length + y111.length < 140737488355328 then ((some (y108 ++ y111 : List Int)).bind fun y114 => (if y114.length + (l0.drop 3).length < 140737488355328 then ((octets_GetId.f k (y114 ++ (l0.drop 3)) 0).bind fun bt121 => (some (bt121.1, bt121.2))) else (none))) else (none)))) else (none)) else (none)) else (some (0, false))
def ident_FromMac.T3 : Bool × List (List Nat × List Nat) := (true, [([], []), ([0], [0]), ([1], [1]), ([], []), ([2, 3, 2], [2, 3]), ([], []), ([5], [5]), ([4, 6, 4], [4, 6]), ([7, 7, 0, 1, 2, 3, 4, 5, 6, 7], [7])])
def ident_FromMac.B3 : List Nat := [0, 1, 3, 0, 15, 0, 32, 127, 255]
theorem ident_FromMac.tab3 : rtab .any (opsOf Try.f10 3) = ident_FromMac.T3 := by kernel_rfl
theorem ident_FromMac.bits3 : waitsOk ident_FromMac.T3.2 ident_FromMac.B3 = true := by kernel_rfl
set_option maxHeartbeats 8000000 in
set_option maxRecDepth 100000 in
theorem ident_FromMac.calls (k : Nat) (A0 : Option Addr) (c0 : Nat) (l0 : List Int) (r1 : Int) (r2 : Bool) (w : World) (hr0 : Kd.C (Kd.int .u8) w A0 l0.length l0) (hc0 : l0.length ≤ c0) (h : ident_FromMac.f k l0 = some (r1, r2)) :
    Calls Try.prog 10 #[.slice A0 l0.length c0] w fun e w' => e = .returned (.tuple #[.int .u64 r1, .bool r2]) ∧ Below w.heap.size w w' := by
  have HR0 := Aside0.mk hr0
  have HC0 := Aside0.mk hc0
  clear hr0 hc0
  have HB := Aside0.mk (Below.refl w.heap.size w)
  have H : (if (l0.length : Int) = 6 then (if 3 ≤ (l0.length : Int) then (if ([] : List Int).length + (l0.take 3).length < 140737488355328 then ((some (([] : List Int) ++ (l0.take 3) : List Int)).bind fun y108 => ((some (([255, 254] : List Int) : List Int)).bind fun y111 => (if y108.length + y111.length < 140737488355328 then ((some (y108 ++ y111 : List Int)).bind fun y114 => (if y114.length + (l0.drop 3).length < 140737488355328 then ((octets_GetId.f k (y114 ++ (l0.drop 3)) 0).bind fun bt121 => (some (bt121.1, bt121.2))) else (none))) else (none)))) else (none)) else (none)) else (some (0, false))) = some (r1, r2) := h
  clear h
  by_cases c2 : (l0.length : Int) = 6
  · rw [if_pos c2] at H
    have c2b0 : ((l0.length : Int) == 6) = true := beq_iff_eq.mpr c2
    have c2b1 : ((l0.length : Int) != 6) = false := bne_eq_false_iff_eq.mpr c2
    clear c2
    by_cases c3 : 3 ≤ (l0.length : Int)
    · rw [if_pos c3] at H
      have c3b0 := eq_true c3
      have c3b1 : decide (3 ≤ (l0.length : Int)) = true := decide_eq_true c3
      clear c3
      by_cases c4 : ([] : List Int).length + (l0.take 3).length < 140737488355328
      · rw [if_pos c4] at H
        have LMc4 := Aside0.mk c4
        clear c4
        obtain ⟨y108, hy108⟩ : ∃ y_ : List Int, y_ = (([] : List Int) ++ (l0.take 3)) := ⟨_, rfl⟩
        replace H : ((some (([255, 254] : List Int) : List Int)).bind fun y111 => (if y108.length + y111.length < 140737488355328 then ((some (y108 ++ y111 : List Int)).bind fun y114 => (if y114.length + (l0.drop 3).length < 140737488355328 then ((octets_GetId.f k (y114 ++ (l0.drop 3)) 0).bind fun bt121 => (some (bt121.1, bt121.2))) else (none))) else (none))) = some (r1, r2) := by first | (rw [hy108]; with_reducible exact H) | (have H2_ := (Option.bind_some _ _).symm.trans H; rw [hy108]; with_reducible exact H2_) | (have H2_ := (Option.bind_some _ _).symm.trans H; with_reducible exact H2_) | with_reducible exact H | (rw [hy108]; exact H) | exact H
        have Ny108 := Aside0.mk hy108
        clear hy108
        obtain ⟨y111, hy111⟩ : ∃ y_ : List Int, y_ = (([255, 254] : List Int)) := ⟨_, rfl⟩
        replace H : (if y108.length + y111.length < 140737488355328 then ((some (y108 ++ y111 : List Int)).bind fun y114 => (if y114.length + (l0.drop 3).length < 140737488355328 then ((octets_GetId.f k (y114 ++ (l0.drop 3)) 0).bind fun bt121 => (some (bt121.1, bt121.2))) else (none))) else (none)) = some (r1, r2) := by first | (rw [hy111]; with_reducible exact H) | (have H2_ := (Option.bind_some _ _).symm.trans H; rw [hy111]; with_reducible exact H2_) | (have H2_ := (Option.bind_some _ _).symm.trans H; with_reducible exact H2_) | with_reducible exact H | (rw [hy111]; exact H) | exact H
        have Ny111 := Aside0.mk hy111
        clear hy111
        by_cases c5 : y108.length + y111.length < 140737488355328
        · rw [if_pos c5] at H
          have LMc5 := Aside0.mk c5
          clear c5
          obtain ⟨y114, hy114⟩ : ∃ y_ : List Int, y_ = (y108 ++ y111) := ⟨_, rfl⟩
          replace H : (if y114.length + (l0.drop 3).length < 140737488355328 then ((octets_GetId.f k (y114 ++ (l0.drop 3)) 0).bind fun bt121 => (some (bt121.1, bt121.2))) else (none)) = some (r1, r2) := by first | (rw [hy114]; with_reducible exact H) | (have H2_ := (Option.bind_some _ _).symm.trans H; rw [hy114]; with_reducible exact H2_) | (have H2_ := (Option.bind_some _ _).symm.trans H; with_reducible exact H2_) | with_reducible exact H | (rw [hy114]; exact H) | exact H
          have Ny114 := Aside0.mk hy114
          clear hy114
          have c6b0 := eq_true (of_decide_eq_true (by first | (with_reducible assumption) | assumption) : 3 ≤ (l0.length : Int))
          by_cases c7 : y114.length + (l0.drop 3).length < 140737488355328
          · rw [if_pos c7] at H
            have LMc7 := Aside0.mk c7
            clear c7
            obtain ⟨y118, hy118⟩ : ∃ y_ : List Int, y_ = (y114 ++ (l0.drop 3)) := ⟨_, rfl⟩
            replace H : ((octets_GetId.f k y118 0).bind fun bt121 => (some (bt121.1, bt121.2))) = some (r1, r2) := by first | (rw [hy118]; with_reducible exact H) | (have H2_ := (Option.bind_some _ _).symm.trans H; rw [hy118]; with_reducible exact H2_) | (have H2_ := (Option.bind_some _ _).symm.trans H; with_reducible exact H2_) | with_reducible exact H | (rw [hy118]; exact H) | exact H
            have Ny118 := Aside0.mk hy118
            clear hy118
            replace H := Option.bind_eq_some_iff.mp H
            obtain ⟨⟨t121, t122⟩, A80, H⟩ := H
            replace H : (some (t121, t122)) = some (r1, r2) := H
            have A8 := Aside0.mk A80
            clear A80
            simp only [Option.some.injEq, Prod.mk.injEq] at H
            obtain ⟨rfl, rfl⟩ := H
            go_enter Try.func10, Try.ntmps10
            try go_wp2
            have n0_ := Aside0.mk (below_drew1 HB.out)
            clear HB
            have HB := n0_
            clear n0_
            obtain ⟨i010, hi010, _, hsz10, _⟩ := info_parts info5
            obtain ⟨hcut10, hA10, hC10⟩ := print_take_of (P := Try.prog) (Value.int .u8) 0 23 5 .i64 Try.underlying23 hi010 hsz10 A0 c0 l0 3 (by omega) (of_decide_eq_true (by first | (with_reducible assumption) | assumption)) HC0.out
            have HR107 := Aside0.mk (Kd.C_of_reads (h1 := fun _ => rfl) (hA10 _ (Kd.reads_of_C HR0.out)))
            have HC107 := Aside0.mk hC10
            clear hA10 hC10 hi010 hsz10
            obtain ⟨i011, hi011, _, hsz11, _⟩ := info_parts info5
            obtain ⟨A11, hcut11, hA11, hC11⟩ := print_drop_of (P := Try.prog) (Value.int .u8) 0 23 5 .i64 Try.underlying23 hi011 hsz11 A0 c0 l0 3 (by omega) (of_decide_eq_true (by first | (with_reducible assumption) | assumption)) HC0.out
            have HR117 := Aside0.mk (Kd.C_of_reads (h1 := fun _ => rfl) (hA11 _ (Kd.reads_of_C HR0.out)))
            have HC117 := Aside0.mk hC11
            clear hA11 hC11 hi011 hsz11
            refine start_ (n := 9) (S := fun w' => True) (ds := []) #[false, false, false, false, false, false, false, false, false] (by kernel_rfl) rfl rfl trivial (fun hHeld => ?_); refine with_tabW ident_FromMac.tab3 ident_FromMac.bits3 (fun HT_ HW_ => ?_)
            generalize w.drew = w9 at HB HR107 HR117 hHeld ⊢
            refine pure_ (i := 0) (N := some 8) (v := ?_) (a' := ?_) #[true, false, false, false, false, false, false, false, false] rfl rfl (any_of HT_.out (by kernel_rfl)) (fun _ _ _ h => h) (Or.inl ⟨by rfl, ?_⟩) ?_ ?_
            rotate_left
            · intro w'
              go_simp
              with_reducible rfl
            rotate_left
            · simp only [Act.put, List.setIfInBounds_toArray, List.set_cons_zero, List.set_cons_succ, i64_w, i32_w]
              rfl
            refine pure_ (i := 1) (N := some 9) (v := ?_) (a' := ?_) #[true, true, false, false, false, false, false, false, false] rfl rfl (any_of HT_.out (by kernel_rfl)) (fun _ _ _ h => h) (Or.inl ⟨by rfl, ?_⟩) ?_ ?_
            rotate_left
            · intro w'
              go_simp
              with_reducible rfl
            rotate_left
            · simp only [Act.put, List.setIfInBounds_toArray, List.set_cons_zero, List.set_cons_succ, i64_w, i32_w]
              rfl
            refine pure_ (i := 5) (N := some 13) (v := ?_) (a' := ?_) #[true, true, false, false, false, true, false, false, false] rfl rfl (any_of HT_.out (by kernel_rfl)) (fun _ _ _ h => h) (Or.inl ⟨by rfl, ?_⟩) ?_ ?_
            rotate_left
            · intro w'
              go_simp
              with_reducible rfl
            rotate_left
            · simp only [Act.put, List.setIfInBounds_toArray, List.set_cons_zero, List.set_cons_succ, i64_w, i32_w]
              rfl
            refine pure_ (i := 6) (N := some 14) (v := ?_) (a' := ?_) #[true, true, false, false, false, true, true, false, false] rfl rfl (any_of HT_.out (by kernel_rfl)) (fun _ _ _ h => h) (Or.inl ⟨by rfl, ?_⟩) ?_ ?_
            rotate_left
            · intro w'
              go_simp
              with_reducible rfl
            rotate_left
            · simp only [Act.put, List.setIfInBounds_toArray, List.set_cons_zero, List.set_cons_succ, i64_w, i32_w]
              rfl
            refine join_ (σ := Value × Value) 3 #[true, true, true, true, false, true, true, false, false] (fun s_ => [(10, s_.1), (11, s_.2)]) (fun s_ w' => (Kd.R (Kd.int .u8) 5 w' w.heap.size (fun k_ => some k_ ≠ (s_.2 : Value).ownBlock) s_.1 y108) ∧ (Kd.R (Kd.int .u8) 5 w' w.heap.size (fun k_ => some k_ ≠ (s_.1 : Value).ownBlock) s_.2 y111) ∧ (Below w.heap.size w w')) ?_ ?_
            rotate_left
            · intro hCont
              refine two_ (i := 2) (j := 3) (Ni := some 10) (Nj := some 11) #[true, true, true, false, false, true, true, false, false] #[true, true, false, true, false, true, true, false, false] rfl rfl rfl rfl (two_of HT_.out (by kernel_rfl)) (by decide) (by decide) (fun K hK => ?_) (fun K hK => ?_)
              · skip
                refine Kd.R_append_rows_step (Kd.int .u8) (w0 := w) w.heap.size (by rfl) (.const (.slice none 0 0)) (.tmp 9) 23 5 (.int .u8 0) 1 rfl Try.underlying23 info5 rfl (by decide) (by omega) (.slice none 0 0) ([] : List Int) (l0.take 3) _ _ _ (fun _ => True) (fun _ => False) rfl rfl ?aO ?aR (fun _ _ h => h) (fun _ h => h.elim) ?aF ?aB ?aS ?aL ?_
                (case aR => first | (have q_ := (Kd.C_below HR107.out HB.out); rw [show (l0.take 3).length = 3 from (by rw [List.length_take]; have h_ : (3 : Int) ≤ (l0.length : Int) := of_decide_eq_true (by first | (with_reducible assumption) | assumption); omega)] at q_; exact q_) | (have q_ := (Kd.C_below HR107.out HB.out); rw [List.length_take] at q_; exact q_) | (rw [← show (l0.take 3).length = 3 from (by rw [List.length_take]; have h_ : (3 : Int) ≤ (l0.length : Int) := of_decide_eq_true (by first | (with_reducible assumption) | assumption); omega)]; repeat (first | exact (Kd.C_below HR107.out HB.out) | (with_reducible refine Kd.C_alloc ?_ _) | (with_reducible refine Kd.C_drewN ?_ _) | (with_reducible refine Kd.C_drew ?_))) | (repeat (first | exact (Kd.C_below HR107.out HB.out) | (with_reducible refine Kd.C_alloc ?_ _) | (with_reducible refine Kd.C_drewN ?_ _) | (with_reducible refine Kd.C_drew ?_))))
                (case aB => exact (by repeat (first | (with_reducible first | exact HB.out | apply below_alloc | apply pw_below_drewN | apply below_drew1) | exact HB.out)))
                (case aF => exact (fun _ _ => trivial))
                (case aO => exact ((Kd.R_nil _ _ _ _ (fun _ => True))))
                (case aS => exact (below_size (by repeat (first | (with_reducible first | exact HB.out | apply below_alloc | apply pw_below_drewN | apply below_drew1) | exact HB.out))))
                (case aL => have := LMc4.out; have hlx_ := (show (l0.take 3).length = 3 from (by rw [List.length_take]; have h_ : (3 : Int) ≤ (l0.length : Int) := of_decide_eq_true (by first | (with_reducible assumption) | assumption); omega)); omega)
                intro v109 w12 ho hb hg hat
                rw [← Ny108.out] at ho
                have n0_ := Aside0.mk (hb)
                have n1_ := Aside0.mk (ho)
                clear HB
                have HB := n0_
                have HO110 := n1_
                clear n0_ n1_
                clear ho hb hg hat
                refine hK.out _ _ trivial (fun hHeld => ?_)
                clear hK K
                refine norm_ (a' := ?_) ?_ ?_
                rotate_left
                · show Act.put _ (some 10) _ = _
                  simp only [Act.put, List.setIfInBounds_toArray, List.set_cons_zero, List.set_cons_succ, i64_w, i32_w]
                  rfl
                refine one_ (i := 3) (N := some 11) #[true, true, true, true, false, true, true, false, false] rfl rfl (one_of HT_.out (by kernel_rfl)) (by decide) (fun K hK => ?_)
                refine Kd.R_lit_step (Kd.int .u8) _ 5 ?hg (N := 11) ?hd (xs := ([255, 254] : List Int)) (inner := [.int .u8 255, .int .u8 254]) (ok := fun _ => True) (okp := fun _ => True) ?hr ?hp (fun _ hk => hk) trivial (Below.refl _ _) (Nat.le_refl _) (by simp) ?_; (case hd => rfl); (case hg => rfl); (case hr => first | (go_simp; done) | (go_simp; rfl)); (case hp => exact (Reps.one (show Kd.M (Kd.int .u8) _ _ _ 255 [.int .u8 255] from rfl) (Reps.one (show Kd.M (Kd.int .u8) _ _ _ 254 [.int .u8 254] from rfl) (Reps.none _ _))))
                intro v112 w13 ho14 hb hg_ hnew_
                clear hg_ hnew_
                (first | rw [← Ny111.out] at ho14 | (simp only [Int.reduceToNat] at ho14; rw [← Ny111.out] at ho14))
                have n0_ := Aside0.mk (Kd.R_elder' (by (with_reducible repeat (first | apply Kd.R_alloc | apply Kd.R_drewN | apply Kd.R_drew)); exact HO110.out) (Kd.R_base ho14) hb)
                have n1_ := Aside0.mk (Kd.R_lower (Kd.R_new' ho14 (Kd.R_lt (by (with_reducible repeat (first | apply Kd.R_alloc | apply Kd.R_drewN | apply Kd.R_drew)); exact HO110.out))) (below_size (by repeat (first | (with_reducible first | exact HB.out | apply below_alloc | apply pw_below_drewN | apply below_drew1) | exact HB.out))))
                have n2_ := Aside0.mk (below_step (by repeat (first | (with_reducible first | exact HB.out | apply below_alloc | apply pw_below_drewN | apply below_drew1) | exact HB.out)) hb)
                clear HO110
                clear HB
                have HO110 := n0_
                have HO113 := n1_
                have HB := n2_
                clear n0_ n1_ n2_
                clear hb ho14
                refine hK.out _ _ trivial (fun hHeld => ?_)
                clear hK K
                refine norm_ (a' := ?_) ?_ ?_
                rotate_left
                · show Act.put _ (some 11) _ = _
                  simp only [Act.put, List.setIfInBounds_toArray, List.set_cons_zero, List.set_cons_succ, i64_w, i32_w]
                  rfl
                exact norm_ (by simp only [putAll, Act.put, List.setIfInBounds_toArray, List.set_cons_zero, List.set_cons_succ]) (hCont (v109, v112) _ ⟨(by (with_reducible repeat (first | apply Kd.R_alloc | apply Kd.R_drewN | apply Kd.R_drew)); exact Kd.R_mono HO110.out (fun _ hk => hk.2)), (by (with_reducible repeat (first | apply Kd.R_alloc | apply Kd.R_drewN | apply Kd.R_drew)); exact Kd.R_mono HO113.out (fun _ hk => hk.2)), (by repeat (first | (with_reducible first | exact HB.out | apply below_alloc | apply pw_below_drewN | apply below_drew1) | exact HB.out))⟩)
              · skip
                refine Kd.R_lit_step (Kd.int .u8) _ 5 ?hg (N := 11) ?hd (xs := ([255, 254] : List Int)) (inner := [.int .u8 255, .int .u8 254]) (ok := fun _ => True) (okp := fun _ => True) ?hr ?hp (fun _ hk => hk) trivial (Below.refl _ _) (Nat.le_refl _) (by simp) ?_; (case hd => rfl); (case hg => rfl); (case hr => first | (go_simp; done) | (go_simp; rfl)); (case hp => exact (Reps.one (show Kd.M (Kd.int .u8) _ _ _ 255 [.int .u8 255] from rfl) (Reps.one (show Kd.M (Kd.int .u8) _ _ _ 254 [.int .u8 254] from rfl) (Reps.none _ _))))
                intro v112 w12 ho13 hb hg_ hnew_
                clear hg_ hnew_
                (first | rw [← Ny111.out] at ho13 | (simp only [Int.reduceToNat] at ho13; rw [← Ny111.out] at ho13))
                have n0_ := Aside0.mk (Kd.R_lower ho13 (below_size (by repeat (first | (with_reducible first | exact HB.out | apply below_alloc | apply pw_below_drewN | apply below_drew1) | exact HB.out))))
                have n1_ := Aside0.mk (below_step (by repeat (first | (with_reducible first | exact HB.out | apply below_alloc | apply pw_below_drewN | apply below_drew1) | exact HB.out)) hb)
                clear HB
                have HO113 := n0_
                have HB := n1_
                clear n0_ n1_
                clear hb ho13
                refine hK.out _ _ trivial (fun hHeld => ?_)
                clear hK K
                refine norm_ (a' := ?_) ?_ ?_
                rotate_left
                · show Act.put _ (some 11) _ = _
                  simp only [Act.put, List.setIfInBounds_toArray, List.set_cons_zero, List.set_cons_succ, i64_w, i32_w]
                  rfl
                refine one_ (i := 2) (N := some 10) #[true, true, true, true, false, true, true, false, false] rfl rfl (one_of HT_.out (by kernel_rfl)) (by decide) (fun K hK => ?_)
                refine Kd.R_append_rows_step (Kd.int .u8) (w0 := w) w.heap.size (by rfl) (.const (.slice none 0 0)) (.tmp 9) 23 5 (.int .u8 0) 1 rfl Try.underlying23 info5 rfl (by decide) (by omega) (.slice none 0 0) ([] : List Int) (l0.take 3) _ _ _ (fun k_ => some k_ ≠ (v112 : Value).ownBlock) (fun _ => False) rfl rfl ?aO ?aR (fun _ _ h => h) (fun _ h => h.elim) ?aF ?aB ?aS ?aL ?_
                (case aR => first | (have q_ := (Kd.C_below HR107.out HB.out); rw [show (l0.take 3).length = 3 from (by rw [List.length_take]; have h_ : (3 : Int) ≤ (l0.length : Int) := of_decide_eq_true (by first | (with_reducible assumption) | assumption); omega)] at q_; exact q_) | (have q_ := (Kd.C_below HR107.out HB.out); rw [List.length_take] at q_; exact q_) | (rw [← show (l0.take 3).length = 3 from (by rw [List.length_take]; have h_ : (3 : Int) ≤ (l0.length : Int) := of_decide_eq_true (by first | (with_reducible assumption) | assumption); omega)]; repeat (first | exact (Kd.C_below HR107.out HB.out) | (with_reducible refine Kd.C_alloc ?_ _) | (with_reducible refine Kd.C_drewN ?_ _) | (with_reducible refine Kd.C_drew ?_))) | (repeat (first | exact (Kd.C_below HR107.out HB.out) | (with_reducible refine Kd.C_alloc ?_ _) | (with_reducible refine Kd.C_drewN ?_ _) | (with_reducible refine Kd.C_drew ?_))))
                (case aB => exact (by repeat (first | (with_reducible first | exact HB.out | apply below_alloc | apply pw_below_drewN | apply below_drew1) | exact HB.out)))
                (case aF => exact (fun k_ hk => Kd.fresh' (Kd.R_lt (by (with_reducible repeat (first | apply Kd.R_alloc | apply Kd.R_drewN | apply Kd.R_drew)); exact HO113.out)) k_ hk))
                (case aO => exact ((Kd.R_nil _ _ _ _ (fun k_ => some k_ ≠ (v112 : Value).ownBlock))))
                (case aS => exact (below_size (by repeat (first | (with_reducible first | exact HB.out | apply below_alloc | apply pw_below_drewN | apply below_drew1) | exact HB.out))))
                (case aL => have := LMc4.out; have hlx_ := (show (l0.take 3).length = 3 from (by rw [List.length_take]; have h_ : (3 : Int) ≤ (l0.length : Int) := of_decide_eq_true (by first | (with_reducible assumption) | assumption); omega)); omega)
                intro v109 w14 ho hb hg hat
                rw [← Ny108.out] at ho
                have n0_ := Aside0.mk (Kd.R_after (Kd.R_apart_nil (by (with_reducible repeat (first | apply Kd.R_alloc | apply Kd.R_drewN | apply Kd.R_drew)); exact HO113.out)) hg hat)
                have n1_ := Aside0.mk (hb)
                have n2_ := Aside0.mk (ho)
                clear HO113
                clear HB
                have HO113 := n0_
                have HB := n1_
                have HO110 := n2_
                clear n0_ n1_ n2_
                clear ho hb hg hat
                refine hK.out _ _ trivial (fun hHeld => ?_)
                clear hK K
                refine norm_ (a' := ?_) ?_ ?_
                rotate_left
                · show Act.put _ (some 10) _ = _
                  simp only [Act.put, List.setIfInBounds_toArray, List.set_cons_zero, List.set_cons_succ, i64_w, i32_w]
                  rfl
                exact norm_ (by simp only [putAll, Act.put, List.setIfInBounds_toArray, List.set_cons_zero, List.set_cons_succ]) (hCont (v109, v112) _ ⟨(by (with_reducible repeat (first | apply Kd.R_alloc | apply Kd.R_drewN | apply Kd.R_drew)); exact HO110.out), (by (with_reducible repeat (first | apply Kd.R_alloc | apply Kd.R_drewN | apply Kd.R_drew)); exact Kd.R_mono HO113.out (fun _ hk => hk.2)), (by repeat (first | (with_reducible first | exact HB.out | apply below_alloc | apply pw_below_drewN | apply below_drew1) | exact HB.out))⟩)
            rintro ⟨v109, v112⟩ w15 ⟨h0_, h1_, h2_⟩
            have n0_ : Aside0 (Kd.R (Kd.int .u8) 5 w15 w.heap.size (fun k_ => some k_ ≠ (v112 : Value).ownBlock) v109 y108) := ⟨h0_⟩
            have n1_ : Aside0 (Kd.R (Kd.int .u8) 5 w15 w.heap.size (fun k_ => some k_ ≠ (v109 : Value).ownBlock) v112 y111) := ⟨h1_⟩
            have n2_ : Aside0 (Below w.heap.size w w15) := ⟨h2_⟩
            clear HB
            clear h0_ h1_ h2_
            have HO110 := n0_
            have HO113 := n1_
            have HB := n2_
            clear n0_ n1_ n2_
            have hHeld := trivial
            obtain ⟨Ao17, co17, eo17⟩ := Kd.R_slice HO113.out
            (first | subst eo17 | (injection eo17 with f1_ f2_ f3_; have f4_ := f1_.symm; have f5_ := f3_.symm; clear f1_ f2_ f3_; subst f4_; subst f5_))
            refine norm_ (a' := ?_) ?_ ?_
            rotate_left
            · simp only [putAll, Act.put, List.setIfInBounds_toArray, List.set_cons_zero, List.set_cons_succ]
              rfl
            refine one_ (i := 4) (N := some 12) #[true, true, true, true, true, true, true, false, false] rfl rfl (one_of HT_.out (by kernel_rfl)) (by decide) (fun K hK => ?_)
            refine Kd.R_append_rows_step (Kd.int .u8) (w0 := w) w.heap.size (by rfl) (.tmp 10) (.tmp 11) 23 5 (.int .u8 0) 1 rfl Try.underlying23 info5 rfl (by decide) (by omega) v109 y108 y111 _ _ _ (fun k_ => some k_ ≠ (.slice Ao17 y111.length co17 : Value).ownBlock) (fun _ => False) rfl rfl ?aO ?aR (fun _ _ h => h) (fun _ h => h.elim) ?aF ?aB ?aS ?aL ?_
            (case aR => repeat (first | exact (Kd.R_reads' HO113.out).2.2 | (with_reducible refine Kd.C_alloc ?_ _) | (with_reducible refine Kd.C_drewN ?_ _) | (with_reducible refine Kd.C_drew ?_)))
            (case aB => exact (by repeat (first | (with_reducible first | exact HB.out | apply below_alloc | apply pw_below_drewN | apply below_drew1) | exact HB.out)))
            (case aF => exact (fun k_ hk => Kd.fresh' (Kd.R_lt (by (with_reducible repeat (first | apply Kd.R_alloc | apply Kd.R_drewN | apply Kd.R_drew)); exact HO113.out)) k_ hk))
            (case aO => exact (by (with_reducible repeat (first | apply Kd.R_alloc | apply Kd.R_drewN | apply Kd.R_drew)); exact HO110.out))
            (case aS => exact (below_size (by repeat (first | (with_reducible first | exact HB.out | apply below_alloc | apply pw_below_drewN | apply below_drew1) | exact HB.out))))
            (case aL => have := LMc5.out; omega)
            intro v115 w16 ho hb hg hat
            rw [← Ny114.out] at ho
            have n0_ := Aside0.mk (Kd.R_after (ok := (fun _ => True)) (by (with_reducible repeat (first | apply Kd.R_alloc | apply Kd.R_drewN | apply Kd.R_drew)); exact Kd.R_mono HO113.out (fun _ hk => ⟨trivial, hk⟩)) hg hat)
            have n1_ := Aside0.mk (hb)
            have n2_ := Aside0.mk (ho)
            clear HO113
            clear HB
            clear HO110
            have HO113 := n0_
            have HB := n1_
            have HO116 := n2_
            clear n0_ n1_ n2_
            clear ho hb hg hat
            refine hK.out _ _ trivial (fun hHeld => ?_)
            clear hK K
            refine norm_ (a' := ?_) ?_ ?_
            rotate_left
            · show Act.put _ (some 12) _ = _
              simp only [Act.put, List.setIfInBounds_toArray, List.set_cons_zero, List.set_cons_succ, i64_w, i32_w]
              rfl
            refine one_ (i := 7) (N := some 15) #[true, true, true, true, true, true, true, true, false] rfl rfl (one_of HT_.out (by kernel_rfl)) (by decide) (fun K hK => ?_)
            refine Kd.R_append_rows_step (Kd.int .u8) (w0 := w) w.heap.size (by rfl) (.tmp 12) (.tmp 14) 23 5 (.int .u8 0) 1 rfl Try.underlying23 info5 rfl (by decide) (by omega) v115 y114 (l0.drop 3) _ _ _ (fun k_ => some k_ ≠ (.slice Ao17 y111.length co17 : Value).ownBlock) (fun _ => False) rfl rfl ?aO ?aR (fun _ _ h => h) (fun _ h => h.elim) ?aF ?aB ?aS ?aL ?_
            (case aR => first | (rw [← show (l0.drop 3).length = (l0.length - 3) from List.length_drop]; repeat (first | exact (Kd.C_below HR117.out HB.out) | (with_reducible refine Kd.C_alloc ?_ _) | (with_reducible refine Kd.C_drewN ?_ _) | (with_reducible refine Kd.C_drew ?_))) | (repeat (first | exact (Kd.C_below HR117.out HB.out) | (with_reducible refine Kd.C_alloc ?_ _) | (with_reducible refine Kd.C_drewN ?_ _) | (with_reducible refine Kd.C_drew ?_))))
            (case aB => exact (by repeat (first | (with_reducible first | exact HB.out | apply below_alloc | apply pw_below_drewN | apply below_drew1) | exact HB.out)))
            (case aF => exact (fun k_ hk => Kd.fresh' (Kd.R_lt (by (with_reducible repeat (first | apply Kd.R_alloc | apply Kd.R_drewN | apply Kd.R_drew)); exact HO113.out)) k_ hk))
            (case aO => exact (by (with_reducible repeat (first | apply Kd.R_alloc | apply Kd.R_drewN | apply Kd.R_drew)); exact HO116.out))
            (case aS => exact (below_size (by repeat (first | (with_reducible first | exact HB.out | apply below_alloc | apply pw_below_drewN | apply below_drew1) | exact HB.out))))
            (case aL => have := LMc7.out; have hlx_ := (show (l0.drop 3).length = (l0.length - 3) from List.length_drop); omega)
            intro v119 w18 ho hb hg hat
            rw [← Ny118.out] at ho
            have n0_ := Aside0.mk (Kd.R_after (ok := (fun _ => True)) (by (with_reducible repeat (first | apply Kd.R_alloc | apply Kd.R_drewN | apply Kd.R_drew)); exact HO113.out) hg hat)
            have n1_ := Aside0.mk (hb)
            have n2_ := Aside0.mk (ho)
            clear HO113
            clear HB
            clear HO116
            have HO113 := n0_
            have HB := n1_
            have HO120 := n2_
            clear n0_ n1_ n2_
            clear ho hb hg hat
            refine hK.out _ _ trivial (fun hHeld => ?_)
            clear hK K
            refine norm_ (a' := ?_) ?_ ?_
            rotate_left
            · show Act.put _ (some 15) _ = _
              simp only [Act.put, List.setIfInBounds_toArray, List.set_cons_zero, List.set_cons_succ, i64_w, i32_w]
              rfl
            refine pure_ (i := 8) (N := some 4) (v := ?_) (a' := ?_) #[true, true, true, true, true, true, true, true, true] rfl rfl (any_of HT_.out (by kernel_rfl)) (fun _ _ _ h => h) (Or.inl ⟨by rfl, ?_⟩) ?_ ?_
            rotate_left
            · intro w'
              go_simp
              with_reducible rfl
            rotate_left
            · simp only [Act.put, List.setIfInBounds_toArray, List.set_cons_zero, List.set_cons_succ, i64_w, i32_w]
              rfl
            refine done_ (done_of HT_.out (by kernel_rfl)) ?_
            obtain ⟨Ao19, co19, eo19⟩ := Kd.R_slice HO120.out
            subst eo19
            try go_wp2_with (first | ((with_reducible refine gate_callee (f := 24) rfl ?_); refine goesL_ (some 17) rfl rfl Try.func24 (by kernel_rfl) rfl #[.slice Ao19 y118.length co19, .int .i64 0] rfl (by (try simp only [List.map_toArray, List.map_cons, List.map_nil]); first | done | rfl | (simp only [List.length_drop, List.length_take]; rfl)) ?_; (with_reducible refine (octets_GetId.calls k _ _ y118 0 t121 t122 _ ?side1 ?side2 A8.out).mono ?_); (case side1 => repeat (first | exact (Kd.R_reads' HO120.out).2.2 | (with_reducible refine Kd.C_alloc ?_ _) | (with_reducible refine Kd.C_drewN ?_ _) | (with_reducible refine Kd.C_drew ?_))); (case side2 => exact (Kd.R_reads' HO120.out).2.1); rintro e w' ⟨rfl, ⟨nd, rfl⟩⟩; refine ⟨_, rfl, ?_⟩))
            go_ret2
            exact ⟨by first | rfl | (simp [errW_none, errW_some] <;> rfl) | (simp [*, errW_none, errW_some] <;> rfl), by repeat (first | (with_reducible first | exact HB.out | apply below_alloc | apply pw_below_drewN | apply below_drew1) | exact HB.out)⟩
          · rw [if_neg c7] at H
            exact absurd H (by simp)
        · rw [if_neg c5] at H
          exact absurd H (by simp)
      · rw [if_neg c4] at H
        exact absurd H (by simp)
    · rw [if_neg c3] at H
      exact absurd H (by simp)
  · rw [if_neg c2] at H
    have c2b0 : ((l0.length : Int) == 6) = false := beq_eq_false_iff_ne.mpr c2
    have c2b1 : ((l0.length : Int) != 6) = true := bne_iff_ne.mpr c2
    simp only [Option.some.injEq, Prod.mk.injEq] at H
    obtain ⟨rfl, rfl⟩ := H
    go_enter Try.func10, Try.ntmps10
    go_wp2
    go_ret2
    exact ⟨by first | rfl | (simp [errW_none, errW_some] <;> rfl) | (simp [*, errW_none, errW_some] <;> rfl), by repeat (first | (with_reducible first | exact HB.out | apply below_alloc | apply pw_below_drewN | apply below_drew1) | exact HB.out)⟩
/-! ### carillonlaw04_awake: function 11 -/
def carillonlaw04_awake.f (k : Nat)  : Option (Bool) := (ident_FromMac.f k (([0, 27, 25, 1, 2, 3] : List Int))).bind fun bt126 => (if bt126.2 = true then (some (bt126.1 == 7628411640021507)) else (some false))
set_option maxHeartbeats 8000000 in
set_option maxRecDepth 100000 in
theorem carillonlaw04_awake.calls (k : Nat)  (r : Bool) (w : World) (h : carillonlaw04_awake.f k  = some r) :
    Calls Try.prog 11 #[] w fun e w' => e = .returned (.bool r) ∧ Below w.heap.size w w' := by
  have HB := Aside0.mk (Below.refl w.heap.size w)
  have H : ((ident_FromMac.f k (([0, 27, 25, 1, 2, 3] : List Int))).bind fun bt126 => (if bt126.2 = true then (some (bt126.1 == 7628411640021507)) else (some false))) = some r := h
  clear h
  obtain ⟨y123, hy123⟩ : ∃ y_ : List Int, y_ = (([0, 27, 25, 1, 2, 3] : List Int)) := ⟨_, rfl⟩
  replace H : ((ident_FromMac.f k y123).bind fun bt126 => (if bt126.2 = true then (some (bt126.1 == 7628411640021507)) else (some false))) = some r := by first | (rw [hy123]; with_reducible exact H) | (have H2_ := (Option.bind_some _ _).symm.trans H; rw [hy123]; with_reducible exact H2_) | (have H2_ := (Option.bind_some _ _).symm.trans H; with_reducible exact H2_) | with_reducible exact H | (rw [hy123]; exact H) | exact H
  have Ny123 := Aside0.mk hy123
  clear hy123
  replace H := Option.bind_eq_some_iff.mp H
  obtain ⟨⟨t126, t127⟩, A10, H⟩ := H
  replace H : (if t127 = true then (some (t126 == 7628411640021507)) else (some false)) = some r := H
  have A1 := Aside0.mk A10
  clear A10
  by_cases c2 : t127 = true
  · subst c2
    have H1 : (some (t126 == 7628411640021507)) = some r := by rw [if_pos rfl] at H; exact H
    clear H
    have H := H1
    clear H1
    obtain rfl := Option.some.inj H
    go_enter Try.func11, Try.ntmps11
    go_wp2_with (first | ((with_reducible refine gate_dst (N := 4) rfl ?_); refine Kd.R_lit (Kd.int .u8) _ 5 ?hg (N := 4) ?hd (xs := ([0, 27, 25, 1, 2, 3] : List Int)) (inner := [.int .u8 0, .int .u8 27, .int .u8 25, .int .u8 1, .int .u8 2, .int .u8 3]) (ok := fun _ => True) (okp := fun _ => True) ?hr ?hp (fun _ hk => hk) trivial (Below.refl _ _) (Nat.le_refl _) (by simp) ?_; (case hd => rfl); (case hg => rfl); (case hr => first | (go_simp; done) | (go_simp; rfl)); (case hp => exact (Reps.one (show Kd.M (Kd.int .u8) _ _ _ 0 [.int .u8 0] from rfl) (Reps.one (show Kd.M (Kd.int .u8) _ _ _ 27 [.int .u8 27] from rfl) (Reps.one (show Kd.M (Kd.int .u8) _ _ _ 25 [.int .u8 25] from rfl) (Reps.one (show Kd.M (Kd.int .u8) _ _ _ 1 [.int .u8 1] from rfl) (Reps.one (show Kd.M (Kd.int .u8) _ _ _ 2 [.int .u8 2] from rfl) (Reps.one (show Kd.M (Kd.int .u8) _ _ _ 3 [.int .u8 3] from rfl) (Reps.none _ _)))))))); intro v124 w3 ho4 hb hg_ hnew_; clear hg_ hnew_; (first | rw [← Ny123.out] at ho4 | (simp only [Int.reduceToNat] at ho4; rw [← Ny123.out] at ho4)); have n0_ := Aside0.mk (Kd.R_lower ho4 (below_size (by repeat (first | (with_reducible first | exact HB.out | apply below_alloc | apply pw_below_drewN | apply below_drew1) | exact HB.out)))); have n1_ := Aside0.mk (below_step (by repeat (first | (with_reducible first | exact HB.out | apply below_alloc | apply pw_below_drewN | apply below_drew1) | exact HB.out)) hb); clear HB; have HO125 := n0_; have HB := n1_; clear n0_ n1_; clear hb ho4; obtain ⟨Ao5, co5, eo5⟩ := Kd.R_slice HO125.out; subst eo5) | ((with_reducible refine gate_callee (f := 10) rfl ?_); refine goesL_ (some 5) rfl rfl Try.func10 (by kernel_rfl) rfl #[.slice Ao5 y123.length co5] rfl (by (try simp only [List.map_toArray, List.map_cons, List.map_nil]); first | done | rfl | (simp only [List.length_drop, List.length_take]; rfl)) ?_; (with_reducible refine (ident_FromMac.calls k _ _ y123 t126 true _ ?side1 ?side2 A1.out).mono ?_); (case side1 => repeat (first | exact (Kd.R_reads' HO125.out).2.2 | (with_reducible refine Kd.C_alloc ?_ _) | (with_reducible refine Kd.C_drewN ?_ _) | (with_reducible refine Kd.C_drew ?_))); (case side2 => exact (Kd.R_reads' HO125.out).2.1); rintro e w6 ⟨rfl, hb⟩; refine ⟨_, rfl, ?_⟩; have n0_ := Aside0.mk (Kd.R_below (by (with_reducible repeat (first | apply Kd.R_alloc | apply Kd.R_drewN | apply Kd.R_drew)); exact HO125.out) hb); have n1_ := Aside0.mk (below_step (by repeat (first | (with_reducible first | exact HB.out | apply below_alloc | apply pw_below_drewN | apply below_drew1) | exact HB.out)) hb); clear HO125; clear HB; have HO125 := n0_; have HB := n1_; clear n0_ n1_; (try clear hb); (try clear hb2); (try clear hk); (try clear hi)))
    all_goals
      go_ret
      exact ⟨by first | rfl | (simp [errW_none, errW_some] <;> rfl) | (simp [*, errW_none, errW_some] <;> rfl), by repeat (first | (with_reducible first | exact HB.out | apply below_alloc | apply pw_below_drewN | apply below_drew1) | exact HB.out)⟩
  · replace c2 := Bool.eq_false_iff.mpr c2
    subst c2
    have H1 : (some false) = some r := by rw [if_neg (show ¬ (false = true) by decide)] at H; exact H
    clear H
    have H := H1
    clear H1
    obtain rfl := Option.some.inj H
    go_enter Try.func11, Try.ntmps11
    go_wp2_with (first | ((with_reducible refine gate_dst (N := 4) rfl ?_); refine Kd.R_lit (Kd.int .u8) _ 5 ?hg (N := 4) ?hd (xs := ([0, 27, 25, 1, 2, 3] : List Int)) (inner := [.int .u8 0, .int .u8 27, .int .u8 25, .int .u8 1, .int .u8 2, .int .u8 3]) (ok := fun _ => True) (okp := fun _ => True) ?hr ?hp (fun _ hk => hk) trivial (Below.refl _ _) (Nat.le_refl _) (by simp) ?_; (case hd => rfl); (case hg => rfl); (case hr => first | (go_simp; done) | (go_simp; rfl)); (case hp => exact (Reps.one (show Kd.M (Kd.int .u8) _ _ _ 0 [.int .u8 0] from rfl) (Reps.one (show Kd.M (Kd.int .u8) _ _ _ 27 [.int .u8 27] from rfl) (Reps.one (show Kd.M (Kd.int .u8) _ _ _ 25 [.int .u8 25] from rfl) (Reps.one (show Kd.M (Kd.int .u8) _ _ _ 1 [.int .u8 1] from rfl) (Reps.one (show Kd.M (Kd.int .u8) _ _ _ 2 [.int .u8 2] from rfl) (Reps.one (show Kd.M (Kd.int .u8) _ _ _ 3 [.int .u8 3] from rfl) (Reps.none _ _)))))))); intro v124 w7 ho8 hb hg_ hnew_; clear hg_ hnew_; (first | rw [← Ny123.out] at ho8 | (simp only [Int.reduceToNat] at ho8; rw [← Ny123.out] at ho8)); have n0_ := Aside0.mk (Kd.R_lower ho8 (below_size (by repeat (first | (with_reducible first | exact HB.out | apply below_alloc | apply pw_below_drewN | apply below_drew1) | exact HB.out)))); have n1_ := Aside0.mk (below_step (by repeat (first | (with_reducible first | exact HB.out | apply below_alloc | apply pw_below_drewN | apply below_drew1) | exact HB.out)) hb); clear HB; have HO125 := n0_; have HB := n1_; clear n0_ n1_; clear hb ho8; obtain ⟨Ao9, co9, eo9⟩ := Kd.R_slice HO125.out; subst eo9) | ((with_reducible refine gate_callee (f := 10) rfl ?_); refine goesL_ (some 5) rfl rfl Try.func10 (by kernel_rfl) rfl #[.slice Ao9 y123.length co9] rfl (by (try simp only [List.map_toArray, List.map_cons, List.map_nil]); first | done | rfl | (simp only [List.length_drop, List.length_take]; rfl)) ?_; (with_reducible refine (ident_FromMac.calls k _ _ y123 t126 false _ ?side1 ?side2 A1.out).mono ?_); (case side1 => repeat (first | exact (Kd.R_reads' HO125.out).2.2 | (with_reducible refine Kd.C_alloc ?_ _) | (with_reducible refine Kd.C_drewN ?_ _) | (with_reducible refine Kd.C_drew ?_))); (case side2 => exact (Kd.R_reads' HO125.out).2.1); rintro e w10 ⟨rfl, hb⟩; refine ⟨_, rfl, ?_⟩; have n0_ := Aside0.mk (Kd.R_below (by (with_reducible repeat (first | apply Kd.R_alloc | apply Kd.R_drewN | apply Kd.R_drew)); exact HO125.out) hb); have n1_ := Aside0.mk (below_step (by repeat (first | (with_reducible first | exact HB.out | apply below_alloc | apply pw_below_drewN | apply below_drew1) | exact HB.out)) hb); clear HO125; clear HB; have HO125 := n0_; have HB := n1_; clear n0_ n1_; (try clear hb); (try clear hb2); (try clear hk); (try clear hi)))
    all_goals
      go_ret
      exact ⟨by first | rfl | (simp [errW_none, errW_some] <;> rfl) | (simp [*, errW_none, errW_some] <;> rfl), by repeat (first | (with_reducible first | exact HB.out | apply below_alloc | apply pw_below_drewN | apply below_drew1) | exact HB.out)⟩
/-! ### carillonlaw04_IdentMacs: function 3: by our own printer -/
def carillonlaw04_IdentMacs.f (k : Nat) (a0 a1 : Int) : Option (Bool) := (carillonlaw04_IdentMacs_1.f k a0).bind fun t8 => ((ident_FromMac.f k t8).bind fun t9 => ((carillonlaw04_IdentMacs_1.f k a1).bind fun t13 => ((ident_FromMac.f k t13).bind fun t14 => ((carillonlaw04_IdentMacs_1.f k a0).bind fun t18 => (if 5 ≤ (t18.length : Int) then ((ident_FromMac.f k ((t18.take (5 : Int).toNat).drop (0 : Int).toNat)).bind fun t19 => (if t9.2 = true then (if t14.2 = true then (if t19.2 = true then (some false) else (if ((decide (t9.1 = t14.1)) == (decide ((shl .u64 a0 16) = (shl .u64 a1 16)))) = true then (if (Go.bits .and .u64 (shr .u64 t9.1 24) 65535) = 65534 then (if (shr .u64 t9.1 40) = (shr .u64 (shl .u64 a0 16) 40) then ((carillonlaw04_awake.f k ).bind fun t23 => (some t23)) else (some false)) else (some false)) else (some false))) else (some false)) else (some false))) else (none))))))
open Go.Proofs.Ytinlfcfcpolodaa.E in
set_option maxHeartbeats 60000000 in
set_option maxRecDepth 100000 in
theorem carillonlaw04_IdentMacs.calls (k : Nat) (a0 a1 : Int) (w : World) (h : carillonlaw04_IdentMacs.f k a0 a1 = some true) :
    Calls Try.prog 3 #[.int .u64 a0, .int .u64 a1] w fun e w' => e = .returned (.bool true) ∧ Below w.heap.size w w' := by
 have H := h
 clear h
 unfold carillonlaw04_IdentMacs.f at H
 obtain ⟨t8, aH, H⟩ := Option.bind_eq_some_iff.mp H
 obtain ⟨t9, aI, H⟩ := Option.bind_eq_some_iff.mp H
 obtain ⟨aa, ae⟩ := t9
 (try dsimp only at H)
 obtain ⟨aj, av, H⟩ := Option.bind_eq_some_iff.mp H
 obtain ⟨aP, aw, H⟩ := Option.bind_eq_some_iff.mp H
 obtain ⟨ab, ad⟩ := aP
 (try dsimp only at H)
 obtain ⟨ag, ax, H⟩ := Option.bind_eq_some_iff.mp H
 by_cases c1 : 5 ≤ (ag.length : Int)
 rotate_left
 ·rw [if_neg c1] at H
  exact absurd H (by simp)
 rw [if_pos c1] at H
 obtain ⟨aQ, ay, H⟩ := Option.bind_eq_some_iff.mp H
 obtain ⟨af, ac⟩ := aQ
 (try dsimp only at H)
 by_cases c2 : ae = true
 rotate_left
 ·rw [if_neg c2] at H
  exact absurd H (by simp)
 rw [if_pos c2] at H
 by_cases c3 : ad = true
 rotate_left
 ·rw [if_neg c3] at H
  exact absurd H (by simp)
 rw [if_pos c3] at H
 by_cases c4 : ac = true
 ·rw [if_pos c4] at H
  exact absurd H (by simp)
 rw [if_neg c4] at H
 by_cases c5 : ((decide (aa = ab)) == (decide ((shl .u64 a0 16) = (shl .u64 a1 16)))) = true
 rotate_left
 ·rw [if_neg c5] at H
  exact absurd H (by simp)
 rw [if_pos c5] at H
 by_cases c6 : (Go.bits .and .u64 (shr .u64 aa 24) 65535) = 65534
 rotate_left
 ·rw [if_neg c6] at H
  exact absurd H (by simp)
 rw [if_pos c6] at H
 by_cases c7 : (shr .u64 aa 40) = (shr .u64 (shl .u64 a0 16) 40)
 rotate_left
 ·rw [if_neg c7] at H
  exact absurd H (by simp)
 rw [if_pos c7] at H
 obtain ⟨ah, az, H⟩ := Option.bind_eq_some_iff.mp H
 have hret := Option.some.inj H
 clear H
 refine calls_of_wp (fn := Try.f3) (by kernel_rfl) rfl ?_
 have hS := St.enter #[.int .u64 a0, .int .u64 a1] 70 (by simp) [(0, .int .u64 a0), (1, .int .u64 a1)] (by simp)
 have aJ := Below.refl w.heap.size w
 refine wp_seq_k (fun K1 aK => ?_)
 refine reg_seq (I := I1_ w) (ps := [VB false]) (by kernel_rfl) ?_ ?_ rfl hS aJ ?_ ?_
 ·exact bs1
 ·exact .v (.nil)
 ·refine .on rfl (fun a w hS hI hp => does_val (x_assign rfl (rfl)) rfl) ?_
  exact .nil
 clear hS
 intro aY w3 hS aN hp
 clear hp
 refine aK _ _ ?_
 refine wp_seq_k (fun K4 aL => ?_)
 refine reg_seq (I := I2_ w w3) (ps := [IsV (.func (.func 9) #[] #[])]) (by kernel_rfl) ?_ ?_ rfl hS ⟨aN, (bR w3)⟩ ?_ ?_
 ·exact bs2
 ·exact .v (.nil)
 ·refine .on rfl (fun a w hS hI hp => does_val (x_assign rfl (rfl)) rfl) ?_
  exact .nil
 clear hS
 intro aZ w6 hS aO hp
 have an : sl _ 5 = .func (.func 9) #[] #[] := hp 0 (by decide)
 have hS := hS.cons an
 clear hp an
 refine aL _ _ ?_
 refine wp_seq_k (fun K7 aM => ?_)
 refine reg_seq (I := I2_ w w6) (ps := [IsV (.func (.func 9) #[] #[]), IsV (.int .u64 a0), IsR (Kd.int .u8) 5 w6.heap.size t8, IsV (.tuple #[.int .u64 aa, .bool ae]), IsV (.tuple #[.int .u64 aa, .bool ae]), IsV (.int .u64 aa), VB ae, IsV (.int .u64 aa), VB ae]) (by kernel_rfl) ?_ ?_ rfl hS ⟨aO.1, (bR w6)⟩ ?_ ?_
 ·exact bs2
 ·exact .v (.v (.cons (Stays.r _ _ _ _) (.v (.v (.v (.v (.v (.v (.nil)))))))))
 ·refine .ms 0 rfl rfl rfl ?_
  refine .ms 1 rfl rfl rfl ?_
  refine .on rfl (fun a w hS hI hp => does_call (x_callF rfl (hp.V 0 rfl rfl) (by kernel_rfl)) (ar1 (hp.V 1 rfl rfl)) ((carillonlaw04_IdentMacs_1.calls k a0 t8 _  aH).mono fun _ _ h => h.elim fun v0 h => ⟨v0, h.1, h.2.2, Kd.R_lower h.2.1 hI.2.size⟩)) ?_
  refine .on rfl (fun a w hS hI hp => (IsC.of_r (hp.V 2 rfl rfl)).elim fun A_ h_ => h_.elim fun c_ h_ => h_.elim fun hv_ h_ => h_.elim fun hl_ hc_ => does_call (by kernel_rfl) (ar1 (hv_)) ((ident_FromMac.calls k _ _ t8 aa ae _ hc_ hl_ aI).mono fun _ _ h => ⟨_, h.1, h.2, rfl⟩)) ?_
  refine .mv 3 rfl rfl rfl rfl ?_
  iterate 2 refine .on rfl (fun a w hS hI hp => does_val (x_extract rfl (hp.V 4 rfl rfl) rfl) rfl) ?_
  refine .asg 5 rfl rfl rfl rfl ?_
  refine .asg 6 rfl rfl rfl rfl ?_
  exact .nil
 clear hS
 intro aR ak hS aD hp
 have ao : sl _ 6 = .int .u64 aa := hp 7 (by decide)
 have ap : sl _ 7 = .bool ae := hp 8 (by decide)
 have hS := hS.cons ao
 have hS := hS.cons ap
 clear hp ao ap
 refine aM _ _ ?_
 refine wp_seq_k (fun aV aA => ?_)
 refine reg_seq (I := I2_ w ak) (ps := [IsV (.func (.func 9) #[] #[]), IsV (.int .u64 a1), IsR (Kd.int .u8) 5 ak.heap.size aj, IsV (.tuple #[.int .u64 ab, .bool ad]), IsV (.tuple #[.int .u64 ab, .bool ad]), IsV (.int .u64 ab), VB ad, IsV (.int .u64 ab), VB ad]) (by kernel_rfl) ?_ ?_ rfl hS ⟨aD.1, (bR ak)⟩ ?_ ?_
 ·exact bs2
 ·exact .v (.v (.cons (Stays.r _ _ _ _) (.v (.v (.v (.v (.v (.v (.nil)))))))))
 ·refine .ms 2 rfl rfl rfl ?_
  refine .ms 4 rfl rfl rfl ?_
  refine .on rfl (fun a w hS hI hp => does_call (x_callF rfl (hp.V 0 rfl rfl) (by kernel_rfl)) (ar1 (hp.V 1 rfl rfl)) ((carillonlaw04_IdentMacs_1.calls k a1 aj _  av).mono fun _ _ h => h.elim fun v0 h => ⟨v0, h.1, h.2.2, Kd.R_lower h.2.1 hI.2.size⟩)) ?_
  refine .on rfl (fun a w hS hI hp => (IsC.of_r (hp.V 2 rfl rfl)).elim fun A_ h_ => h_.elim fun c_ h_ => h_.elim fun hv_ h_ => h_.elim fun hl_ hc_ => does_call (by kernel_rfl) (ar1 (hv_)) ((ident_FromMac.calls k _ _ aj ab ad _ hc_ hl_ aw).mono fun _ _ h => ⟨_, h.1, h.2, rfl⟩)) ?_
  refine .mv 3 rfl rfl rfl rfl ?_
  iterate 2 refine .on rfl (fun a w hS hI hp => does_val (x_extract rfl (hp.V 4 rfl rfl) rfl) rfl) ?_
  refine .asg 5 rfl rfl rfl rfl ?_
  refine .asg 6 rfl rfl rfl rfl ?_
  exact .nil
 clear hS
 intro aS al hS aE hp
 have aq : sl _ 8 = .int .u64 ab := hp 7 (by decide)
 have ar : sl _ 9 = .bool ad := hp 8 (by decide)
 have hS := hS.cons aq
 have hS := hS.cons ar
 clear hp aq ar
 refine aA _ _ ?_
 refine wp_seq_k (fun aW aB => ?_)
 refine reg_seq (I := I2_ w al) (ps := [IsV (.func (.func 9) #[] #[]), IsV (.int .u64 a0), IsR (Kd.int .u8) 5 al.heap.size ag, IsC (Kd.int .u8) ((ag.take (5 : Int).toNat).drop (0 : Int).toNat), IsV (.tuple #[.int .u64 af, .bool ac]), IsV (.tuple #[.int .u64 af, .bool ac]), IsV (.int .u64 af), VB ac, IsV (.int .u64 af), VB ac]) (by kernel_rfl) ?_ ?_ rfl hS ⟨aE.1, (bR al)⟩ ?_ ?_
 ·exact bs2
 ·exact .v (.v (.cons (Stays.r _ _ _ _) (.cons (Stays.c _ _) (.v (.v (.v (.v (.v (.v (.nil))))))))))
 ·refine .ms 4 rfl rfl rfl ?_
  refine .ms 5 rfl rfl rfl ?_
  refine .on rfl (fun a w hS hI hp => does_call (x_callF rfl (hp.V 0 rfl rfl) (by kernel_rfl)) (ar1 (hp.V 1 rfl rfl)) ((carillonlaw04_IdentMacs_1.calls k a0 ag _  ax).mono fun _ _ h => h.elim fun v0 h => ⟨v0, h.1, h.2.2, Kd.R_lower h.2.1 hI.2.size⟩)) ?_
  refine .on rfl (fun a w hS hI hp => (IsC.of_r (hp.V 2 rfl rfl)).elim fun A_ h_ => h_.elim fun c_ h_ => h_.elim fun hv_ h_ => h_.elim fun hl_ hc_ => does_cut (i := 0) (j := 5) rfl (e := 5) (by kernel_rfl) (by kernel_rfl) hv_ (.inl ⟨rfl, rfl⟩) (.inr ⟨_, rfl, rfl⟩) (by decide) (by decide) c1 hl_ (hc_)) ?_
  refine .on rfl (fun a w hS hI hp => (hp.V 3 rfl rfl).elim fun A_ h_ => h_.elim fun c_ h_ => h_.elim fun hv_ h_ => h_.elim fun hl_ hc_ => does_call (by kernel_rfl) (ar1 (hv_)) ((ident_FromMac.calls k _ _ ((ag.take (5 : Int).toNat).drop (0 : Int).toNat) af ac _ hc_ hl_ ay).mono fun _ _ h => ⟨_, h.1, h.2, rfl⟩)) ?_
  refine .mv 4 rfl rfl rfl rfl ?_
  iterate 2 refine .on rfl (fun a w hS hI hp => does_val (x_extract rfl (hp.V 5 rfl rfl) rfl) rfl) ?_
  refine .asg 6 rfl rfl rfl rfl ?_
  refine .asg 7 rfl rfl rfl rfl ?_
  exact .nil
 clear hS
 intro aT au hS aF hp
 replace hS := ((((((hS.nil).cons (hS.get 6 rfl)).cons (hS.get 5 rfl)).cons (hS.get 3 rfl)).cons (hS.get 2 rfl)).cons (hS.get 1 rfl)).cons (hS.get 0 rfl)
 have ai : sl _ 11 = .bool ac := hp 9 (by decide)
 have hS := hS.cons ai
 clear hp ai
 refine aB _ _ ?_
 refine wp_seq_k (fun aX aC => ?_)
 refine reg_seq (I := I2_ w au) (ps := [VB ae, VB ae, VB ad, VB ad, VB ad, VB ac, VB (!ac), VB (!ac), VB (!ac), IsV (.int .u64 aa), IsV (.int .u64 ab), VB (decide (aa = ab)), IsV (.int .u64 a0), IsV (.int .u64 (shl .u64 a0 16)), IsV (.int .u64 a1), IsV (.int .u64 (shl .u64 a1 16)), VB (decide ((shl .u64 a0 16) = (shl .u64 a1 16))), VB ((decide (aa = ab)) == (decide ((shl .u64 a0 16) = (shl .u64 a1 16)))), VB ((decide (aa = ab)) == (decide ((shl .u64 a0 16) = (shl .u64 a1 16)))), VB ((decide (aa = ab)) == (decide ((shl .u64 a0 16) = (shl .u64 a1 16)))), IsV (.int .u64 aa), IsV (.int .u64 (shr .u64 aa 24)), IsV (.int .u64 (Go.bits .and .u64 (shr .u64 aa 24) 65535)), VB (decide ((Go.bits .and .u64 (shr .u64 aa 24) 65535) = 65534)), VB (decide ((Go.bits .and .u64 (shr .u64 aa 24) 65535) = 65534)), VB (decide ((Go.bits .and .u64 (shr .u64 aa 24) 65535) = 65534)), IsV (.int .u64 aa), IsV (.int .u64 (shr .u64 aa 40)), IsV (.int .u64 a0), IsV (.int .u64 (shl .u64 a0 16)), IsV (.int .u64 (shr .u64 (shl .u64 a0 16) 40)), VB (decide ((shr .u64 aa 40) = (shr .u64 (shl .u64 a0 16) 40))), VB (decide ((shr .u64 aa 40) = (shr .u64 (shl .u64 a0 16) 40))), VB (decide ((shr .u64 aa 40) = (shr .u64 (shl .u64 a0 16) 40))), VB ah, VB ah, VB ah]) (by kernel_rfl) ?_ ?_ rfl hS ⟨aF.1, (bR au)⟩ ?_ ?_
 ·exact bs2
 ·exact .v (.v (.v (.v (.v (.v (.v (.v (.v (.v (.v (.v (.v (.v (.v (.v (.v (.v (.v (.v (.v (.v (.v (.v (.v (.v (.v (.v (.v (.v (.v (.v (.v (.v (.v (.v (.v (.nil)))))))))))))))))))))))))))))))))))))
 ·refine .ms 3 rfl rfl rfl ?_
  refine .mv 0 rfl rfl rfl rfl ?_
  refine .oy 1 35 rfl rfl rfl rfl rfl c2 (fun a w hS hI hp => does_val (x_move rfl (hS.get 1 rfl)) rfl) ?_
  refine .pt 1 2 rfl rfl rfl rfl c2 rfl rfl ?_
  refine .mv 3 rfl rfl rfl rfl ?_
  refine .oy 4 38 rfl rfl rfl rfl rfl c3 (fun a w hS hI hp => does_val (x_move rfl (hS.get 0 rfl)) rfl) ?_
  refine .oy 4 38 rfl rfl rfl rfl rfl c3 (fun a w hS hI hp => does_val (x_not rfl (hp.V 5 rfl rfl)) rfl) ?_
  refine .pt 4 6 rfl rfl rfl rfl c3 rfl rfl ?_
  refine .mv 7 rfl rfl rfl rfl ?_
  refine .oy 8 42 rfl rfl rfl rfl rfl ((congrArg (!·) (Bool.eq_false_iff.2 c4))) (fun a w hS hI hp => does_val (x_move rfl (hS.get 4 rfl)) rfl) ?_
  refine .oy 8 42 rfl rfl rfl rfl rfl ((congrArg (!·) (Bool.eq_false_iff.2 c4))) (fun a w hS hI hp => does_val (x_move rfl (hS.get 2 rfl)) rfl) ?_
  refine .oy 8 42 rfl rfl rfl rfl rfl ((congrArg (!·) (Bool.eq_false_iff.2 c4))) (fun a w hS hI hp => does_val (x_bin rfl (hp.V 9 rfl rfl) (hp.V 10 rfl rfl) (b_eql _ _ _ _ _ _)) rfl) ?_
  refine .oy 8 42 rfl rfl rfl rfl rfl ((congrArg (!·) (Bool.eq_false_iff.2 c4))) (fun a w hS hI hp => does_val (x_move rfl (hS.get 5 rfl)) rfl) ?_
  refine .oy 8 42 rfl rfl rfl rfl rfl ((congrArg (!·) (Bool.eq_false_iff.2 c4))) (fun a w hS hI hp => does_val (x_bin rfl (hp.V 12 rfl rfl) (rfl) (b_shl _ _ _ _ _ _ _ (by decide))) rfl) ?_
  refine .oy 8 42 rfl rfl rfl rfl rfl ((congrArg (!·) (Bool.eq_false_iff.2 c4))) (fun a w hS hI hp => does_val (x_move rfl (hS.get 6 rfl)) rfl) ?_
  refine .oy 8 42 rfl rfl rfl rfl rfl ((congrArg (!·) (Bool.eq_false_iff.2 c4))) (fun a w hS hI hp => does_val (x_bin rfl (hp.V 14 rfl rfl) (rfl) (b_shl _ _ _ _ _ _ _ (by decide))) rfl) ?_
  refine .oy 8 42 rfl rfl rfl rfl rfl ((congrArg (!·) (Bool.eq_false_iff.2 c4))) (fun a w hS hI hp => does_val (x_bin rfl (hp.V 13 rfl rfl) (hp.V 15 rfl rfl) (b_eql _ _ _ _ _ _)) rfl) ?_
  refine .oy 8 42 rfl rfl rfl rfl rfl ((congrArg (!·) (Bool.eq_false_iff.2 c4))) (fun a w hS hI hp => does_val (x_bin rfl (hp.V 11 rfl rfl) (hp.V 16 rfl rfl) (b_eqb _ _ _ _ _ (by kernel_rfl))) rfl) ?_
  refine .pt 8 17 rfl rfl rfl rfl ((congrArg (!·) (Bool.eq_false_iff.2 c4))) rfl rfl ?_
  refine .mv 18 rfl rfl rfl rfl ?_
  refine .oy 19 53 rfl rfl rfl rfl rfl c5 (fun a w hS hI hp => does_val (x_move rfl (hS.get 4 rfl)) rfl) ?_
  refine .oy 19 53 rfl rfl rfl rfl rfl c5 (fun a w hS hI hp => does_val (x_bin rfl (hp.V 20 rfl rfl) (rfl) (b_shr _ _ _ _ _ _ _ (by decide))) rfl) ?_
  refine .oy 19 53 rfl rfl rfl rfl rfl c5 (fun a w hS hI hp => does_val (x_bin rfl (hp.V 21 rfl rfl) (rfl) (b_and _ _ _ _ _ _)) rfl) ?_
  refine .oy 19 53 rfl rfl rfl rfl rfl c5 (fun a w hS hI hp => does_val (x_bin rfl (hp.V 22 rfl rfl) (rfl) (b_eql _ _ _ _ _ _)) rfl) ?_
  refine .pt 19 23 rfl rfl rfl rfl c5 rfl rfl ?_
  refine .mv 24 rfl rfl rfl rfl ?_
  refine .oy 25 59 rfl rfl rfl rfl rfl ((decide_eq_true c6)) (fun a w hS hI hp => does_val (x_move rfl (hS.get 4 rfl)) rfl) ?_
  refine .oy 25 59 rfl rfl rfl rfl rfl ((decide_eq_true c6)) (fun a w hS hI hp => does_val (x_bin rfl (hp.V 26 rfl rfl) (rfl) (b_shr _ _ _ _ _ _ _ (by decide))) rfl) ?_
  refine .oy 25 59 rfl rfl rfl rfl rfl ((decide_eq_true c6)) (fun a w hS hI hp => does_val (x_move rfl (hS.get 5 rfl)) rfl) ?_
  refine .oy 25 59 rfl rfl rfl rfl rfl ((decide_eq_true c6)) (fun a w hS hI hp => does_val (x_bin rfl (hp.V 28 rfl rfl) (rfl) (b_shl _ _ _ _ _ _ _ (by decide))) rfl) ?_
  refine .oy 25 59 rfl rfl rfl rfl rfl ((decide_eq_true c6)) (fun a w hS hI hp => does_val (x_bin rfl (hp.V 29 rfl rfl) (rfl) (b_shr _ _ _ _ _ _ _ (by decide))) rfl) ?_
  refine .oy 25 59 rfl rfl rfl rfl rfl ((decide_eq_true c6)) (fun a w hS hI hp => does_val (x_bin rfl (hp.V 27 rfl rfl) (hp.V 30 rfl rfl) (b_eql _ _ _ _ _ _)) rfl) ?_
  refine .pt 25 31 rfl rfl rfl rfl ((decide_eq_true c6)) rfl rfl ?_
  refine .mv 32 rfl rfl rfl rfl ?_
  refine .oy 33 67 rfl rfl rfl rfl rfl ((decide_eq_true c7)) (fun a w hS hI hp => does_call (by kernel_rfl) rfl ((carillonlaw04_awake.calls k  ah _  az).mono fun _ _ h => ⟨_, h.1, h.2, rfl⟩)) ?_
  refine .pt 33 34 rfl rfl rfl rfl ((decide_eq_true c7)) rfl rfl ?_
  refine .asg 35 rfl rfl rfl rfl ?_
  exact .nil
 clear hS
 intro aU a2 hS aG hp
 replace hS := hS.nil
 have am : sl _ 4 = .bool ah := hp 36 (by decide)
 have hS := hS.cons am
 clear hp am
 refine aC _ _ ?_
 refine wp_ret ?_
 (try simp only [Exit.then, Exit.inBlock, Exit.jump, Exit.noGoto])
 exact bodyPost_ret (v := .bool true) (by rw [results_tmp rfl]; exact congrArg (Result.ok · _) ((hS.get 0 rfl).trans (congrArg Value.bool hret))) hS.nodef ⟨rfl, aG.1⟩
def carillonlaw04_IdentMacs.Pure : Prop := ∀ (a0 a1 : Int), (Lit.int .u64 a0).wf = true → (Lit.int .u64 a1).wf = true → ∃ k, carillonlaw04_IdentMacs.f k a0 a1 = some true
theorem carillonlaw04_IdentMacs.walk (P : carillonlaw04_IdentMacs.Pure) (a0 a1 : Int) (w : World) (w0 : (Lit.int .u64 a0).wf = true) (w1 : (Lit.int .u64 a1).wf = true) :
  Calls Try.prog 3 #[.int .u64 a0, .int .u64 a1] w fun e w' => e = .returned (.bool true) ∧ Below w.heap.size w w' := by
 obtain ⟨k, h⟩ := P a0 a1 w0 w1
 refine (carillonlaw04_IdentMacs.calls k a0 a1 w  h).mono ?_
 rintro e w' ⟨rfl, hd⟩
 exact ⟨rfl, hd⟩
end Go.Proofs.Ytinlfcfcpolodaa.P
