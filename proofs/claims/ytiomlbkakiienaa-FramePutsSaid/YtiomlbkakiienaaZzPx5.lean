/- Functions and loops of the given program as Lean functions, and that the code comes to what they say: written by this session's own program; Lean checks it. -/
import Derived.Test.YtiomlbkakiienaaZzPx0
import Derived.Test.YtiomlbkakiienaaZzPx1
import Derived.Test.YtiomlbkakiienaaZzPx4
namespace Go.Proofs.Ytiomlbkakiienaa.P
open Go.RowKit Go.Proofs.YtiomlbkakiienaaW.PrintWords Go.Proofs.YtiomlbkakiienaaW.PrintLast Go.Proofs.YtiomlbkakiienaaW.PrintMore
attribute [local go_sem] max2_int min2_int max_two min_two max_three min_three max_four min_four   -- for this text's walks alone
set_option linter.unusedVariables false
set_option linter.unusedSimpArgs false
def octets_read.l0 : Nat → Int → List Int → Int → Int → Option (Int)
  | 0, _, _, _, _ => none
  | k + 1, x3, x6, x7, x8 => if x8 < x7 then (if 0 ≤ x8 then (if x8 < (x6.length : Int) then (octets_read.l0 k (Go.bits .or .u64 (IntKind.u64.wrap (x3 * 256)) (IntKind.u64.wrap (rd x6 x8))) x6 x7 (wrap64 (x8 + 1))) else (none)) else (none)) else (some x3)
def octets_read.f (k : Nat) (l0 : List Int) : Option (Int) := octets_read.l0 k 0 l0 (l0.length : Int) 0
set_option maxHeartbeats 8000000 in
set_option maxRecDepth 100000 in
theorem octets_read.calls (k : Nat) (A0 : Option Addr) (c0 : Nat) (l0 : List Int) (r : Int) (w : World) (hr0 : Kd.C (Kd.int .u8) w A0 l0.length l0) (hc0 : l0.length ≤ c0) (h : octets_read.f k l0 = some r) :
    Calls Try.prog 81 #[.slice A0 l0.length c0] w fun e w' => e = .returned (.int .u64 r) ∧ Drawn0 w w' := by
  have HR0 := Aside0.mk hr0
  have HC0 := Aside0.mk hc0
  clear hr0 hc0
  have H : (octets_read.l0 k 0 l0 (l0.length : Int) 0) = some r := h
  clear h
  have H' := Aside0.mk H
  clear H
  go_enter Try.func81, Try.ntmps81
  go_wp2
  go_loopg [3, 8] k (fun kq v3 v8 w' => ∃ (x3_1 : Int) (x8_1 : Int), v3 = .int .u64 x3_1 ∧ v8 = .int .i64 x8_1 ∧ Aside0 (octets_read.l0 kq x3_1 l0 (l0.length : Int) x8_1 = some r) ∧ Aside0 (kq ≤ k) ∧ Drawn0 w w')
  case atStart => exact ⟨(0), (0), (by first | rfl | (simp; done) | (simp [*]; done)), (by first | rfl | (simp; done) | (simp [*]; done)), H', ⟨Nat.le_refl _⟩, by repeat (first | exact Drawn0.refl _ | apply Drawn0.step)⟩
  case round =>
    clear H'
    obtain ⟨x3_1, x8_1, rfl, rfl, HA, HK1, ⟨m1, rfl⟩⟩ := hrel
    cases gk with
    | zero => exact absurd HA.out (by simp [octets_read.l0])
    | succ k1 =>
      have H := HA.out
      clear HA
      simp only [octets_read.l0] at H
      by_cases c2 : x8_1 < (l0.length : Int)
      · rw [if_pos c2] at H
        have c2b0 : decide (x8_1 < (l0.length : Int)) = true := decide_eq_true c2
        clear c2
        by_cases c3 : 0 ≤ x8_1
        · rw [if_pos c3] at H
          have c3b0 : decide (0 ≤ x8_1) = true := decide_eq_true c3
          clear c3
          by_cases c4 : x8_1 < (l0.length : Int)
          · rw [if_pos c4] at H
            have c4b0 : decide (x8_1 < (l0.length : Int)) = true := decide_eq_true c4
            clear c4
            have H' := Aside0.mk H
            clear H
            have p139 : 0 ≤ (x8_1 : Int) := of_decide_eq_true (by first | (with_reducible assumption) | assumption)
            have q139 : x8_1 < (l0.length : Int) := of_decide_eq_true (by first | (with_reducible assumption) | assumption)
            obtain ⟨ad139, e139, hx139_0⟩ := Kd.at_int HR0.out x8_1 p139 q139
            cases e139
            replace p139 := eq_true p139
            replace q139 := eq_true q139
            go_wp2
            go_roundg k1
            case measure => have := HK1.out; omega
            case rel => exact ⟨(Go.bits .or .u64 (IntKind.u64.wrap (x3_1 * 256)) (IntKind.u64.wrap (rd l0 x8_1))), (wrap64 (x8_1 + 1)), (by first | rfl | (simp; done) | (simp [*]; done)), (by first | rfl | (simp; done) | (simp [*]; done)), H', ⟨by have := HK1.out; omega⟩, by repeat (first | exact Drawn0.refl _ | apply Drawn0.step)⟩
          · rw [if_neg c4] at H
            exact absurd H (by simp)
        · rw [if_neg c3] at H
          exact absurd H (by simp)
      · rw [if_neg c2] at H
        have c2b0 : decide (x8_1 < (l0.length : Int)) = false := decide_eq_false c2
        clear c2
        obtain rfl := Option.some.inj H
        go_wp2
        all_goals
          go_ret
          exact ⟨by first | rfl | (simp; done) | (simp [*]; done), by repeat (first | exact Drawn0.refl _ | apply Drawn0.step)⟩
def octets_Get.f (k : Nat) (l0 : List Int) (a1 : Int) (a2 : Int) : Option (Int × Bool) := if a2 < 1 then (some (0, false)) else (if a2 > 7 then (some (0, false)) else ((octets_none.f l0 a1 a2).bind fun t140 => (if t140 = true then (some (0, false)) else (if 0 ≤ a1 then (if a1 ≤ (wrap64 (a1 + a2)) then (if (wrap64 (a1 + a2)) ≤ (l0.length : Int) then ((octets_read.f k ((l0.take ((wrap64 (a1 + a2)) : Int).toNat).drop (a1 : Int).toNat)).bind fun t142 => (some (wrap64 (t142), true))) else (none)) else (none)) else (none)))))
set_option maxHeartbeats 8000000 in
set_option maxRecDepth 100000 in
theorem octets_Get.calls (k : Nat) (A0 : Option Addr) (c0 : Nat) (l0 : List Int) (a1 : Int) (a2 : Int) (r1 : Int) (r2 : Bool) (w : World) (hr0 : Kd.C (Kd.int .u8) w A0 l0.length l0) (hc0 : l0.length ≤ c0) (h : octets_Get.f k l0 a1 a2 = some (r1, r2)) :
    Calls Try.prog 59 #[.slice A0 l0.length c0, .int .i64 a1, .int .i64 a2] w fun e w' => e = .returned (.tuple #[.int .i64 r1, .bool r2]) ∧ Drawn0 w w' := by
  have HR0 := Aside0.mk hr0
  have HC0 := Aside0.mk hc0
  clear hr0 hc0
  have H : (if a2 < 1 then (some (0, false)) else (if a2 > 7 then (some (0, false)) else ((octets_none.f l0 a1 a2).bind fun t140 => (if t140 = true then (some (0, false)) else (if 0 ≤ a1 then (if a1 ≤ (wrap64 (a1 + a2)) then (if (wrap64 (a1 + a2)) ≤ (l0.length : Int) then ((octets_read.f k ((l0.take ((wrap64 (a1 + a2)) : Int).toNat).drop (a1 : Int).toNat)).bind fun t142 => (some (wrap64 (t142), true))) else (none)) else (none)) else (none)))))) = some (r1, r2) := h
  clear h
  by_cases c4 : a2 < 1
  · rw [if_pos c4] at H
    have c4b0 : decide (a2 < 1) = true := decide_eq_true c4
    clear c4
    simp only [Option.some.injEq, Prod.mk.injEq] at H
    obtain ⟨rfl, rfl⟩ := H
    go_enter Try.func59, Try.ntmps59
    go_wp2
    go_ret2
    exact ⟨by first | rfl | (simp; done) | (simp [*]; done), by repeat (first | exact Drawn0.refl _ | apply Drawn0.step)⟩
  · rw [if_neg c4] at H
    have c4b0 : decide (a2 < 1) = false := decide_eq_false c4
    clear c4
    by_cases c5 : a2 > 7
    · rw [if_pos c5] at H
      have c5b0 : decide (7 < a2) = true := decide_eq_true c5
      clear c5
      simp only [Option.some.injEq, Prod.mk.injEq] at H
      obtain ⟨rfl, rfl⟩ := H
      go_enter Try.func59, Try.ntmps59
      go_wp2
      go_ret2
      exact ⟨by first | rfl | (simp; done) | (simp [*]; done), by repeat (first | exact Drawn0.refl _ | apply Drawn0.step)⟩
    · rw [if_neg c5] at H
      have c5b0 : decide (7 < a2) = false := decide_eq_false c5
      clear c5
      replace H := Option.bind_eq_some_iff.mp H
      obtain ⟨t140, A60, H⟩ := H
      replace H : (if t140 = true then (some (0, false)) else (if 0 ≤ a1 then (if a1 ≤ (wrap64 (a1 + a2)) then (if (wrap64 (a1 + a2)) ≤ (l0.length : Int) then ((octets_read.f k ((l0.take ((wrap64 (a1 + a2)) : Int).toNat).drop (a1 : Int).toNat)).bind fun t142 => (some (wrap64 (t142), true))) else (none)) else (none)) else (none))) = some (r1, r2) := H
      have A6 := Aside0.mk A60
      clear A60
      by_cases c7 : t140 = true
      · subst c7
        have H1 : (some (0, false)) = some (r1, r2) := by rw [if_pos rfl] at H; exact H
        clear H
        have H := H1
        clear H1
        simp only [Option.some.injEq, Prod.mk.injEq] at H
        obtain ⟨rfl, rfl⟩ := H
        go_enter Try.func59, Try.ntmps59
        go_wp2_with (first | (go_at_call 80; (with_reducible refine (octets_none.calls _ _ l0 a1 a2 true _ ?side1 ?side2 A6.out).mono ?_); (case side1 => repeat (first | exact HR0.out | (with_reducible refine Kd.C_alloc ?_ _) | (with_reducible refine Kd.C_drewN ?_ _) | (with_reducible refine Kd.C_drew ?_))); (case side2 => exact HC0.out); rintro e w' ⟨rfl, ⟨nd, rfl⟩⟩))
        go_ret2
        exact ⟨by first | rfl | (simp; done) | (simp [*]; done), by repeat (first | exact Drawn0.refl _ | apply Drawn0.step)⟩
      · replace c7 := Bool.eq_false_iff.mpr c7
        subst c7
        have H1 : (if 0 ≤ a1 then (if a1 ≤ (wrap64 (a1 + a2)) then (if (wrap64 (a1 + a2)) ≤ (l0.length : Int) then ((octets_read.f k ((l0.take ((wrap64 (a1 + a2)) : Int).toNat).drop (a1 : Int).toNat)).bind fun t142 => (some (wrap64 (t142), true))) else (none)) else (none)) else (none)) = some (r1, r2) := by rw [if_neg (show ¬ (false = true) by decide)] at H; exact H
        clear H
        have H := H1
        clear H1
        by_cases c8 : 0 ≤ a1
        · rw [if_pos c8] at H
          have c8b0 := eq_true c8
          have c8b1 : decide (0 ≤ a1) = true := decide_eq_true c8
          clear c8
          by_cases c9 : a1 ≤ (wrap64 (a1 + a2))
          · rw [if_pos c9] at H
            have c9b0 := eq_true c9
            have c9b1 : decide (a1 ≤ (wrap64 (a1 + a2))) = true := decide_eq_true c9
            by_cases c10 : (wrap64 (a1 + a2)) ≤ (l0.length : Int)
            · rw [if_pos c10] at H
              have c10b0 := eq_true c10
              have c10b1 : decide ((wrap64 (a1 + a2)) ≤ (l0.length : Int)) = true := decide_eq_true c10
              replace H := Option.bind_eq_some_iff.mp H
              obtain ⟨t142, A110, H⟩ := H
              replace H : (some (wrap64 (t142), true)) = some (r1, r2) := H
              have A11 := Aside0.mk A110
              clear A110
              simp only [Option.some.injEq, Prod.mk.injEq] at H
              obtain ⟨rfl, rfl⟩ := H
              go_enter Try.func59, Try.ntmps59
              go_wp2_with (first | (go_at_call 80; (with_reducible refine (octets_none.calls _ _ l0 a1 a2 false _ ?side1 ?side2 A6.out).mono ?_); (case side1 => repeat (first | exact HR0.out | (with_reducible refine Kd.C_alloc ?_ _) | (with_reducible refine Kd.C_drewN ?_ _) | (with_reducible refine Kd.C_drew ?_))); (case side2 => exact HC0.out); rintro e w' ⟨rfl, ⟨nd, rfl⟩⟩; obtain ⟨i012, hi012, _, hsz12, _⟩ := info_parts info5; obtain ⟨A12, hcut12, hA12, hC12⟩ := print_mid_of (P := Try.prog) (Value.int .u8) 0 36 5 .i64 .i64 Try.underlying36 hi012 hsz12 A0 c0 l0 a1 (wrap64 (a1 + a2)) (of_decide_eq_true (by first | (with_reducible assumption) | assumption)) (by first | omega | exact of_decide_eq_true (by first | (with_reducible assumption) | assumption)) (of_decide_eq_true (by first | (with_reducible assumption) | assumption)) HC0.out; have HR141 := Aside0.mk (Kd.C_of_reads (h1 := fun _ => rfl) (hA12 _ (Kd.reads_of_C HR0.out))); have HC141 := Aside0.mk hC12; clear hA12 hC12 hi012 hsz12) | ((with_reducible refine gate_callee (f := 81) rfl ?_); refine goesL_ (some 26) rfl rfl Try.func81 (by kernel_rfl) rfl #[.slice A12 ((l0.take ((wrap64 (a1 + a2)) : Int).toNat).drop (a1 : Int).toNat).length (c0 - a1.toNat)] rfl (by (try simp only [List.map_toArray, List.map_cons, List.map_nil]); first | done | (rw [show ((l0.take ((wrap64 (a1 + a2)) : Int).toNat).drop (a1 : Int).toNat).length = ((wrap64 (a1 + a2)).toNat - a1.toNat) from (by rw [List.length_drop, List.length_take]; have h_ : ((wrap64 (a1 + a2)) : Int) ≤ (l0.length : Int) := of_decide_eq_true (by first | (with_reducible assumption) | assumption); omega)] <;> rfl) | rfl | (simp only [List.length_drop, List.length_take]; rfl)) ?_; (with_reducible refine (octets_read.calls k _ _ ((l0.take ((wrap64 (a1 + a2)) : Int).toNat).drop (a1 : Int).toNat) t142 _ ?side1 ?side2 A11.out).mono ?_); (case side1 => repeat (first | exact HR141.out | (with_reducible refine Kd.C_alloc ?_ _) | (with_reducible refine Kd.C_drewN ?_ _) | (with_reducible refine Kd.C_drew ?_))); (case side2 => exact HC141.out); rintro e w' ⟨rfl, ⟨nd, rfl⟩⟩; refine ⟨_, rfl, ?_⟩))
              go_ret2
              exact ⟨by first | rfl | (simp; done) | (simp [*]; done), by repeat (first | exact Drawn0.refl _ | apply Drawn0.step)⟩
            · rw [if_neg c10] at H
              exact absurd H (by simp)
          · rw [if_neg c9] at H
            exact absurd H (by simp)
        · rw [if_neg c8] at H
          exact absurd H (by simp)
def octets_Signed.f (k : Nat) (l0 : List Int) (a1 a2 : Int) : Option (Int × Bool) := if a2 < 1 then (none) else (if a2 > 8 then (none) else ((octets_none.f l0 a1 a2).bind fun t6 => (if t6 = true then (none) else (if 0 ≤ a1 then (if a1 ≤ (wrap64 (a1 + a2)) then (if (wrap64 (a1 + a2)) ≤ (l0.length : Int) then ((octets_read.f k ((l0.take (wrap64 (a1 + a2) : Int).toNat).drop (a1 : Int).toNat)).bind fun t13 => (if 0 ≤ (wrap64 (64 - (wrap64 (8 * a2)))) then (some (shr .i64 (wrap64 (shl .u64 t13 (wrap64 (64 - (wrap64 (8 * a2)))))) (wrap64 (64 - (wrap64 (8 * a2)))), true)) else (none))) else (none)) else (none)) else (none)))))
open Go.Proofs.Ytiomlbkakiienaa.E in
set_option maxHeartbeats 60000000 in
set_option maxRecDepth 100000 in
theorem octets_Signed.calls (k : Nat) (A0 : Option Addr) (ab : Nat) (l0 : List Int) (a1 a2 r1 : Int) (r2 : Bool) (w : World) (HR0 : Kd.C (Kd.int .u8) w A0 l0.length l0) (HC0 : l0.length ≤ ab) (h : octets_Signed.f k l0 a1 a2 = some (r1, r2)) :
    Calls Try.prog 61 #[.slice A0 l0.length ab, .int .i64 a1, .int .i64 a2] w fun e w' => e = .returned (.tuple #[.int .i64 r1, .bool r2]) ∧ Below w.heap.size w w' := by
 have H := h
 clear h
 unfold octets_Signed.f at H
 by_cases c1 : a2 < 1
 ·rw [if_pos c1] at H; exact absurd H (by simp)
 rw [if_neg c1] at H
 by_cases c2 : a2 > 8
 ·rw [if_pos c2] at H; exact absurd H (by simp)
 rw [if_neg c2] at H
 obtain ⟨t6, al, H⟩ := Option.bind_eq_some_iff.mp H
 by_cases c3 : t6 = true
 ·rw [if_pos c3] at H; exact absurd H (by simp)
 rw [if_neg c3] at H
 by_cases c4 : 0 ≤ a1
 rotate_left
 ·rw [if_neg c4] at H; exact absurd H (by simp)
 rw [if_pos c4] at H
 by_cases c5 : a1 ≤ (wrap64 (a1 + a2))
 rotate_left
 ·rw [if_neg c5] at H; exact absurd H (by simp)
 rw [if_pos c5] at H
 by_cases c6 : (wrap64 (a1 + a2)) ≤ (l0.length : Int)
 rotate_left
 ·rw [if_neg c6] at H; exact absurd H (by simp)
 rw [if_pos c6] at H
 obtain ⟨aa, ah, H⟩ := Option.bind_eq_some_iff.mp H
 by_cases c7 : 0 ≤ (wrap64 (64 - (wrap64 (8 * a2))))
 rotate_left
 ·rw [if_neg c7] at H; exact absurd H (by simp)
 rw [if_pos c7] at H
 simp only [Option.some.injEq, Prod.mk.injEq] at H
 obtain ⟨rfl, rfl⟩ := H
 refine calls_of_wp (fn := Try.f61) (by kernel_rfl) rfl ?_
 have hS := St.enter #[.slice A0 l0.length ab, .int .i64 a1, .int .i64 a2] 36 (by simp) [(0, .slice A0 l0.length ab), (1, .int .i64 a1), (2, .int .i64 a2)] (by simp)
 have am := Below.refl w.heap.size w
 refine wp_seq_k (fun K1 an => ?_)
 refine reg_seq (I := I1_ w) (ps := [VI 0, VB false]) (by kernel_rfl) ?_ ?_ rfl hS am ?_ ?_
 ·exact bs1
 ·exact .v (.v (.nil))
 ·refine .on rfl (fun a w hS hI hp => does_val (x_assign rfl (rfl)) rfl) ?_
  refine .on rfl (fun a w hS hI hp => does_val (x_assign rfl (rfl)) rfl) ?_
  exact .nil
 clear hS
 intro ay w3 hS ar hp
 clear hp
 refine an _ _ ?_
 refine wp_seq_k (fun K4 ao => ?_)
 refine wp_seq_k (fun K5 ap => ?_)
 refine reg_seq (I := I2_ w w3) (ps := [VI a2, VB (decide (a2 < 1)), VB (decide (a2 < 1)), VI a2, VB (decide (a2 > 8)), VB (decide (a2 > 8)), VB (decide (a2 > 8)), IsV (.slice A0 l0.length ab), VI a1, VI a2, VB t6, VB t6]) (by kernel_rfl) ?_ ?_ rfl hS ⟨ar, (bR w3)⟩ ?_ ?_
 ·exact bs2
 ·exact .v (.v (.v (.v (.v (.v (.v (.v (.v (.v (.v (.v (.nil))))))))))))
 ·refine .ms 2 rfl rfl rfl ?_
  refine .on rfl (fun a w hS hI hp => does_val (x_bin rfl (hp.V 0 rfl rfl) (rfl) (b_lss _ _ _ _ _ _)) rfl) ?_
  refine .mv 1 rfl rfl rfl ?_
  refine .oy 2 11 rfl rfl ((decide_eq_false c1)) (fun a w hS hI hp => does_val (x_move rfl (hS.get 2 rfl)) rfl) ?_
  refine .oy 2 11 rfl rfl ((decide_eq_false c1)) (fun a w hS hI hp => does_val (x_bin rfl (hp.V 3 rfl rfl) (rfl) (b_gtr _ _ _ _ _ _)) rfl) ?_
  refine .on rfl (fun a w hS hI hp => does_val (x_pickF rfl ((hp.V 2 rfl rfl).trans (bF (decide_eq_false c1))) (hp.V 4 rfl rfl)) rfl) ?_
  refine .mv 5 rfl rfl rfl ?_
  refine .oy 6 15 rfl rfl ((decide_eq_false c2)) (fun a w hS hI hp => does_val (x_move rfl (hS.get 0 rfl)) rfl) ?_
  refine .oy 6 15 rfl rfl ((decide_eq_false c2)) (fun a w hS hI hp => does_val (x_move rfl (hS.get 1 rfl)) rfl) ?_
  refine .oy 6 15 rfl rfl ((decide_eq_false c2)) (fun a w hS hI hp => does_val (x_move rfl (hS.get 2 rfl)) rfl) ?_
  refine .oy 6 15 rfl rfl ((decide_eq_false c2)) (fun a w hS hI hp => does_call (by kernel_rfl) (ar3 (hp.V 7 rfl rfl) (hp.V 8 rfl rfl) (hp.V 9 rfl rfl)) ((octets_none.calls _ _ l0 a1 a2 t6 _ (Kd.C_below HR0 hI.1) HC0 al).mono fun _ _ h => ⟨_, h.1, h.2.below, rfl⟩)) ?_
  refine .on rfl (fun a w hS hI hp => does_val (x_pickF rfl ((hp.V 6 rfl rfl).trans (bF (decide_eq_false c2))) (hp.V 10 rfl rfl)) rfl) ?_
  exact .nil
 clear hS
 intro az w8 hS au hp
 have ac : sl _ 20 = .bool t6 := hp 11 (by decide)
 have hS := hS.cons ac
 clear hp ac
 refine ap _ _ ?_
 refine wp_cond_false ((hS.get 0 rfl).trans (bF (Bool.eq_false_iff.2 c3))) ?_
 refine wp_skip ?_
 refine ao _ _ ?_
 refine wp_seq_k (fun K9 aq => ?_)
 refine reg_seq (I := I2_ w w8) (ps := [VI a2, VI (wrap64 (8 * a2)), VI (wrap64 (64 - (wrap64 (8 * a2)))), VI (wrap64 (64 - (wrap64 (8 * a2))))]) (by kernel_rfl) ?_ ?_ rfl hS ⟨au.1, (bR w8)⟩ ?_ ?_
 ·exact bs2
 ·exact .v (.v (.v (.v (.nil))))
 ·refine .ms 3 rfl rfl rfl ?_
  refine .on rfl (fun a w hS hI hp => does_val (x_bin rfl (rfl) (hp.V 0 rfl rfl) (b_mul _ _ _ _ _)) rfl) ?_
  refine .on rfl (fun a w hS hI hp => does_val (x_bin rfl (rfl) (hp.V 1 rfl rfl) (b_sub _ _ _ _ _)) rfl) ?_
  refine .asg 2 rfl rfl rfl ?_
  exact .nil
 clear hS
 intro av ag hS aj hp
 replace hS := (((hS.nil).cons (hS.get 3 rfl)).cons (hS.get 2 rfl)).cons (hS.get 1 rfl)
 have af : sl _ 8 = .int .i64 (wrap64 (64 - (wrap64 (8 * a2)))) := hp 3 (by decide)
 have hS := hS.cons af
 clear hp af
 refine aq _ _ ?_
 refine wp_seq_k (fun ax ai => ?_)
 refine reg_seq (I := I2_ w ag) (ps := [IsV (.slice A0 l0.length ab), VI a1, VI a1, VI a2, VI (wrap64 (a1 + a2)), IsC (Kd.int .u8) ((l0.take (wrap64 (a1 + a2) : Int).toNat).drop (a1 : Int).toNat), IsV (.int .u64 aa), VI (wrap64 (64 - (wrap64 (8 * a2)))), IsV (.int .u64 (shl .u64 aa (wrap64 (64 - (wrap64 (8 * a2)))))), VI (wrap64 (shl .u64 aa (wrap64 (64 - (wrap64 (8 * a2)))))), VI (wrap64 (64 - (wrap64 (8 * a2)))), VI (shr .i64 (wrap64 (shl .u64 aa (wrap64 (64 - (wrap64 (8 * a2)))))) (wrap64 (64 - (wrap64 (8 * a2))))), VI (shr .i64 (wrap64 (shl .u64 aa (wrap64 (64 - (wrap64 (8 * a2)))))) (wrap64 (64 - (wrap64 (8 * a2))))), VB true]) (by kernel_rfl) ?_ ?_ rfl hS ⟨aj.1, (bR ag)⟩ ?_ ?_
 ·exact bs2
 ·exact .v (.v (.v (.v (.v (.cons (Stays.c _ _) (.v (.v (.v (.v (.v (.v (.v (.v (.nil))))))))))))))
 ·refine .ms 1 rfl rfl rfl ?_
  iterate 2 refine .ms 2 rfl rfl rfl ?_
  refine .ms 3 rfl rfl rfl ?_
  refine .on rfl (fun a w hS hI hp => does_val (x_bin rfl (hp.V 2 rfl rfl) (hp.V 3 rfl rfl) (b_add _ _ _ _ _)) rfl) ?_
  refine .on rfl (fun a w hS hI hp => does_cut (i := a1) (j := wrap64 (a1 + a2)) rfl (e := 5) (by kernel_rfl) (by kernel_rfl) (hp.V 0 rfl rfl) (.inr ⟨_, rfl, (hp.V 1 rfl rfl)⟩) (.inr ⟨_, rfl, (hp.V 4 rfl rfl)⟩) c4 c5 c6 HC0 ((Kd.C_below HR0 hI.1))) ?_
  refine .on rfl (fun a w hS hI hp => (hp.V 5 rfl rfl).elim fun A_ h_ => h_.elim fun c_ h_ => h_.elim fun hv_ h_ => h_.elim fun hl_ hc_ => does_call (by kernel_rfl) (ar1 (hv_)) ((octets_read.calls k _ _ ((l0.take (wrap64 (a1 + a2) : Int).toNat).drop (a1 : Int).toNat) aa _ hc_ hl_ ah).mono fun _ _ h => ⟨_, h.1, h.2.below, rfl⟩)) ?_
  refine .ms 0 rfl rfl rfl ?_
  refine .on rfl (fun a w hS hI hp => does_val (x_bin rfl (hp.V 6 rfl rfl) (hp.V 7 rfl rfl) (b_shl _ _ _ _ _ _ _ c7)) rfl) ?_
  refine .on rfl (fun a w hS hI hp => does_val ((i64_w (shl .u64 aa (wrap64 (64 - (wrap64 (8 * a2)))))) ▸ x_convI rfl (by kernel_rfl) (by kernel_rfl) (hp.V 8 rfl rfl)) rfl) ?_
  refine .ms 0 rfl rfl rfl ?_
  refine .on rfl (fun a w hS hI hp => does_val (x_bin rfl (hp.V 9 rfl rfl) (hp.V 10 rfl rfl) (b_shr _ _ _ _ _ _ _ c7)) rfl) ?_
  refine .asg 11 rfl rfl rfl ?_
  refine .on rfl (fun a w hS hI hp => does_val (x_assign rfl (rfl)) rfl) ?_
  exact .nil
 clear hS
 intro aw aA hS ak hp
 replace hS := hS.nil
 have ad : sl _ 6 = .int .i64 (shr .i64 (wrap64 (shl .u64 aa (wrap64 (64 - (wrap64 (8 * a2)))))) (wrap64 (64 - (wrap64 (8 * a2))))) := hp 12 (by decide)
 have ae : sl _ 7 = .bool true := hp 13 (by decide)
 have hS := hS.cons ad
 have hS := hS.cons ae
 clear hp ad ae
 refine ai _ _ ?_
 refine wp_ret ?_
 (try simp only [Exit.then, Exit.inBlock, Exit.jump, Exit.noGoto])
 exact bodyPost_ret (v := .tuple #[.int .i64 (shr .i64 (wrap64 (shl .u64 aa (wrap64 (64 - (wrap64 (8 * a2)))))) (wrap64 (64 - (wrap64 (8 * a2))))), .bool true]) (results_list (rs := [.tmp 6, .tmp 7]) rfl (by simp) (Vals.at (hS.get 1 rfl) (Vals.at (hS.get 0 rfl) .nil))) hS.nodef ⟨rfl, ak.1⟩
def octets_GetId.f (k : Nat) (l0 : List Int) (a1 : Int) : Option (Int × Bool) := (octets_Signed.f k l0 a1 8).bind fun t5 => (some (IntKind.u64.wrap t5.1, t5.2))
open Go.Proofs.Ytiomlbkakiienaa.E in
set_option maxHeartbeats 60000000 in
set_option maxRecDepth 100000 in
theorem octets_GetId.calls (k : Nat) (A0 : Option Addr) (ac : Nat) (l0 : List Int) (a1 r1 : Int) (r2 : Bool) (w : World) (HR0 : Kd.C (Kd.int .u8) w A0 l0.length l0) (HC0 : l0.length ≤ ac) (h : octets_GetId.f k l0 a1 = some (r1, r2)) :
    Calls Try.prog 66 #[.slice A0 l0.length ac, .int .i64 a1] w fun e w' => e = .returned (.tuple #[.int .u64 r1, .bool r2]) ∧ Below w.heap.size w w' := by
 have H := h
 clear h
 unfold octets_GetId.f at H
 obtain ⟨t5, ai, H⟩ := Option.bind_eq_some_iff.mp H
 obtain ⟨aa, ab⟩ := t5
 (try dsimp only at H)
 simp only [Option.some.injEq, Prod.mk.injEq] at H
 obtain ⟨rfl, rfl⟩ := H
 refine calls_of_wp (fn := Try.f66) (by kernel_rfl) rfl ?_
 have hS := St.enter #[.slice A0 l0.length ac, .int .i64 a1] 17 (by simp) [(0, .slice A0 l0.length ac), (1, .int .i64 a1)] (by simp)
 have aj := Below.refl w.heap.size w
 refine wp_seq_k (fun K1 ak => ?_)
 refine reg_seq (I := I1_ w) (ps := [IsV (.int .u64 0), VB false]) (by kernel_rfl) ?_ ?_ rfl hS aj ?_ ?_
 ·exact bs1
 ·exact .v (.v (.nil))
 ·refine .on rfl (fun a w hS hI hp => does_val (x_assign rfl (rfl)) rfl) ?_
  refine .on rfl (fun a w hS hI hp => does_val (x_assign rfl (rfl)) rfl) ?_
  exact .nil
 clear hS
 intro ap w3 hS an hp
 clear hp
 refine ak _ _ ?_
 refine wp_seq_k (fun K4 al => ?_)
 refine reg_seq (I := I2_ w w3) (ps := [IsV (.slice A0 l0.length ac), VI a1, IsV (.tuple #[.int .i64 aa, .bool ab]), IsV (.tuple #[.int .i64 aa, .bool ab]), VI aa, VB ab, VI aa, VB ab]) (by kernel_rfl) ?_ ?_ rfl hS ⟨an, (bR w3)⟩ ?_ ?_
 ·exact bs2
 ·exact .v (.v (.v (.v (.v (.v (.v (.v (.nil))))))))
 ·refine .ms 0 rfl rfl rfl ?_
  refine .ms 1 rfl rfl rfl ?_
  refine .on rfl (fun a w hS hI hp => does_call (by kernel_rfl) (ar3 (hp.V 0 rfl rfl) (hp.V 1 rfl rfl) (rfl)) ((octets_Signed.calls k _ _ l0 a1 8 aa ab _ (Kd.C_below HR0 hI.1) HC0 ai).mono fun _ _ h => ⟨_, h.1, h.2, rfl⟩)) ?_
  refine .mv 2 rfl rfl rfl ?_
  iterate 2 refine .on rfl (fun a w hS hI hp => does_val (x_extract rfl (hp.V 3 rfl rfl) rfl) rfl) ?_
  refine .asg 4 rfl rfl rfl ?_
  refine .asg 5 rfl rfl rfl ?_
  exact .nil
 clear hS
 intro aq w7 hS ao hp
 replace hS := hS.nil
 have af : sl _ 6 = .int .i64 aa := hp 6 (by decide)
 have ag : sl _ 7 = .bool ab := hp 7 (by decide)
 have hS := hS.cons af
 have hS := hS.cons ag
 clear hp af ag
 refine al _ _ ?_
 refine wp_seq_k (fun K8 am => ?_)
 refine reg_seq (I := I2_ w w7) (ps := [VI aa, IsV (.int .u64 (IntKind.u64.wrap aa)), VB ab, IsV (.int .u64 (IntKind.u64.wrap aa)), VB ab]) (by kernel_rfl) ?_ ?_ rfl hS ⟨ao.1, (bR w7)⟩ ?_ ?_
 ·exact bs2
 ·exact .v (.v (.v (.v (.v (.nil)))))
 ·refine .ms 1 rfl rfl rfl ?_
  refine .on rfl (fun a w hS hI hp => does_val (x_convI rfl (by kernel_rfl) (by kernel_rfl) (hp.V 0 rfl rfl)) rfl) ?_
  refine .ms 0 rfl rfl rfl ?_
  refine .asg 1 rfl rfl rfl ?_
  refine .asg 2 rfl rfl rfl ?_
  exact .nil
 clear hS
 intro ar au hS ah hp
 replace hS := hS.nil
 have ad : sl _ 4 = .int .u64 (IntKind.u64.wrap aa) := hp 3 (by decide)
 have ae : sl _ 5 = .bool ab := hp 4 (by decide)
 have hS := hS.cons ad
 have hS := hS.cons ae
 clear hp ad ae
 refine am _ _ ?_
 refine wp_ret ?_
 (try simp only [Exit.then, Exit.inBlock, Exit.jump, Exit.noGoto])
 exact bodyPost_ret (v := .tuple #[.int .u64 (IntKind.u64.wrap aa), .bool ab]) (results_list (rs := [.tmp 4, .tmp 5]) rfl (by simp) (Vals.at (hS.get 1 rfl) (Vals.at (hS.get 0 rfl) .nil))) hS.nodef ⟨rfl, ah.1⟩
def ident_Get.f (k : Nat) (l0 : List Int) (a1 : Int) : Option (Int × Int × Bool) := if a1 < 0 then (none) else (if a1 > (l0.length : Int) then (none) else (if (wrap64 ((l0.length : Int) - a1)) < 10 then (none) else ((octets_GetId.f k l0 a1).bind fun t10 => ((octets_Get.f k l0 (wrap64 (a1 + 8)) 2).bind fun t14 => (some (t10.1, t14.1, true))))))
open Go.Proofs.Ytiomlbkakiienaa.E in
set_option maxHeartbeats 60000000 in
set_option maxRecDepth 100000 in
theorem ident_Get.calls (k : Nat) (A0 : Option Addr) (ae : Nat) (l0 : List Int) (a1 r1 r2 : Int) (r3 : Bool) (w : World) (HR0 : Kd.C (Kd.int .u8) w A0 l0.length l0) (HC0 : l0.length ≤ ae) (h : ident_Get.f k l0 a1 = some (r1, r2, r3)) :
    Calls Try.prog 62 #[.slice A0 l0.length ae, .int .i64 a1] w fun e w' => e = .returned (.tuple #[.agg #[.int .u64 r1, .int .i64 r2], .bool r3]) ∧ Below w.heap.size w w' := by
 have H := h
 clear h
 unfold ident_Get.f at H
 by_cases c1 : a1 < 0
 ·rw [if_pos c1] at H; exact absurd H (by simp)
 rw [if_neg c1] at H
 by_cases c2 : a1 > (l0.length : Int)
 ·rw [if_pos c2] at H; exact absurd H (by simp)
 rw [if_neg c2] at H
 by_cases c3 : (wrap64 ((l0.length : Int) - a1)) < 10
 ·rw [if_pos c3] at H; exact absurd H (by simp)
 rw [if_neg c3] at H
 obtain ⟨aJ, ay, H⟩ := Option.bind_eq_some_iff.mp H
 obtain ⟨aa, ac⟩ := aJ
 (try dsimp only at H)
 obtain ⟨aK, az, H⟩ := Option.bind_eq_some_iff.mp H
 obtain ⟨ab, ad⟩ := aK
 (try dsimp only at H)
 simp only [Option.some.injEq, Prod.mk.injEq] at H
 obtain ⟨rfl, rfl, rfl⟩ := H
 refine calls_of_wp (fn := Try.f62) (by kernel_rfl) rfl ?_
 have hS := St.enter #[.slice A0 l0.length ae, .int .i64 a1] 42 (by simp) [(0, .slice A0 l0.length ae), (1, .int .i64 a1)] (by simp)
 have aD := Below.refl w.heap.size w
 refine wp_seq_k (fun K1 aE => ?_)
 refine reg_seq (I := I1_ w) (ps := [IsB #[.int .u64 0, .int .i64 0] 24 w.heap.size, VB false]) (by kernel_rfl) ?_ ?_ rfl hS aD ?_ ?_
 ·exact bs1
 ·exact .cons (Stays.b _ _ _) (.v (.nil))
 ·refine .on rfl (fun a w hS hI hp => does_var (x_alloc rfl (by kernel_rfl)) (hI).size) ?_
  refine .on rfl (fun a w hS hI hp => does_val (x_assign rfl (rfl)) rfl) ?_
  exact .nil
 clear hS
 intro aT w3 hS aI hp
 obtain ⟨g4, aq, ap, ai⟩ := (show IsB _ 24 _ (sl _ 4) _ from hp 0 (by decide))
 have hS := hS.cons aq
 clear hp aq
 refine aE _ _ ?_
 refine wp_seq_k (fun K5 aF => ?_)
 refine wp_seq_k (fun K6 aG => ?_)
 refine reg_seq (I := I2_ w w3) (ps := [VI a1, VB (decide (a1 < 0)), VB (decide (a1 < 0)), VI a1, IsV (.slice A0 l0.length ae), VI (l0.length : Int), VB (decide (a1 > (l0.length : Int))), VB (decide (a1 > (l0.length : Int))), VB (decide (a1 > (l0.length : Int))), IsV (.slice A0 l0.length ae), VI (l0.length : Int), VI a1, VI (wrap64 ((l0.length : Int) - a1)), VB (decide ((wrap64 ((l0.length : Int) - a1)) < 10)), VB (decide ((wrap64 ((l0.length : Int) - a1)) < 10))]) (by kernel_rfl) ?_ ?_ rfl hS ⟨aI, (bR w3)⟩ ?_ ?_
 ·exact bs2
 ·exact .v (.v (.v (.v (.v (.v (.v (.v (.v (.v (.v (.v (.v (.v (.v (.nil)))))))))))))))
 ·refine .ms 2 rfl rfl rfl ?_
  refine .on rfl (fun a w hS hI hp => does_val (x_bin rfl (hp.V 0 rfl rfl) (rfl) (b_lss _ _ _ _ _ _)) rfl) ?_
  refine .mv 1 rfl rfl rfl ?_
  refine .oy 2 12 rfl rfl ((decide_eq_false c1)) (fun a w hS hI hp => does_val (x_move rfl (hS.get 2 rfl)) rfl) ?_
  refine .oy 2 12 rfl rfl ((decide_eq_false c1)) (fun a w hS hI hp => does_val (x_move rfl (hS.get 1 rfl)) rfl) ?_
  refine .oy 2 12 rfl rfl ((decide_eq_false c1)) (fun a w hS hI hp => does_val (x_len (e := 5) rfl (by kernel_rfl) (hp.V 4 rfl rfl)) rfl) ?_
  refine .oy 2 12 rfl rfl ((decide_eq_false c1)) (fun a w hS hI hp => does_val (x_bin rfl (hp.V 3 rfl rfl) (hp.V 5 rfl rfl) (b_gtr _ _ _ _ _ _)) rfl) ?_
  refine .on rfl (fun a w hS hI hp => does_val (x_pickF rfl ((hp.V 2 rfl rfl).trans (bF (decide_eq_false c1))) (hp.V 6 rfl rfl)) rfl) ?_
  refine .mv 7 rfl rfl rfl ?_
  refine .oy 8 18 rfl rfl ((decide_eq_false c2)) (fun a w hS hI hp => does_val (x_move rfl (hS.get 1 rfl)) rfl) ?_
  refine .oy 8 18 rfl rfl ((decide_eq_false c2)) (fun a w hS hI hp => does_val (x_len (e := 5) rfl (by kernel_rfl) (hp.V 9 rfl rfl)) rfl) ?_
  refine .oy 8 18 rfl rfl ((decide_eq_false c2)) (fun a w hS hI hp => does_val (x_move rfl (hS.get 2 rfl)) rfl) ?_
  refine .oy 8 18 rfl rfl ((decide_eq_false c2)) (fun a w hS hI hp => does_val (x_bin rfl (hp.V 10 rfl rfl) (hp.V 11 rfl rfl) (b_sub _ _ _ _ _)) rfl) ?_
  refine .oy 8 18 rfl rfl ((decide_eq_false c2)) (fun a w hS hI hp => does_val (x_bin rfl (hp.V 12 rfl rfl) (rfl) (b_lss _ _ _ _ _ _)) rfl) ?_
  refine .on rfl (fun a w hS hI hp => does_val (x_pickF rfl ((hp.V 8 rfl rfl).trans (bF (decide_eq_false c2))) (hp.V 13 rfl rfl)) rfl) ?_
  exact .nil
 clear hS
 intro aU w8 hS av hp
 have al : sl _ 24 = .bool (decide ((wrap64 ((l0.length : Int) - a1)) < 10)) := hp 14 (by decide)
 have hS := hS.cons al
 clear hp al
 refine aG _ _ ?_
 refine wp_cond_false ((hS.get 0 rfl).trans (bF (decide_eq_false c3))) ?_
 refine wp_skip ?_
 refine aF _ _ ?_
 refine wp_seq_k (fun K9 aH => ?_)
 refine reg_seq (I := I3_ w w3 w8) (ps := [IsV (.slice A0 l0.length ae), VI a1, IsV (.tuple #[.int .u64 aa, .bool ac]), IsV (.tuple #[.int .u64 aa, .bool ac]), IsV (.int .u64 aa), VB ac, IsV (.int .u64 aa), VB ac]) (by kernel_rfl) ?_ ?_ rfl hS ⟨av.1, av.2, (bR w8)⟩ ?_ ?_
 ·exact bs3
 ·exact .v (.v (.v (.v (.v (.v (.v (.v (.nil))))))))
 ·refine .ms 2 rfl rfl rfl ?_
  refine .ms 3 rfl rfl rfl ?_
  refine .on rfl (fun a w hS hI hp => does_call (by kernel_rfl) (ar2 (hp.V 0 rfl rfl) (hp.V 1 rfl rfl)) ((octets_GetId.calls k _ _ l0 a1 aa ac _ (Kd.C_below HR0 hI.1) HC0 ay).mono fun _ _ h => ⟨_, h.1, h.2, rfl⟩)) ?_
  refine .mv 2 rfl rfl rfl ?_
  iterate 2 refine .on rfl (fun a w hS hI hp => does_val (x_extract rfl (hp.V 3 rfl rfl) rfl) rfl) ?_
  refine .asg 4 rfl rfl rfl ?_
  refine .asg 5 rfl rfl rfl ?_
  exact .nil
 clear hS
 intro aM aw hS an hp
 replace hS := (((hS.nil).cons (hS.get 3 rfl)).cons (hS.get 2 rfl)).cons (hS.get 1 rfl)
 have ar : sl _ 6 = .int .u64 aa := hp 6 (by decide)
 have hS := hS.cons ar
 clear hp ar
 refine aH _ _ ?_
 refine wp_seq_k (fun aR aA => ?_)
 refine reg_seq (I := I3_ w w3 aw) (ps := [IsV (.slice A0 l0.length ae), VI a1, VI (wrap64 (a1 + 8)), IsV (.tuple #[.int .i64 ab, .bool ad]), IsV (.tuple #[.int .i64 ab, .bool ad]), VI ab, VB ad, VI ab, VB ad]) (by kernel_rfl) ?_ ?_ rfl hS ⟨an.1, an.2.1, (bR aw)⟩ ?_ ?_
 ·exact bs3
 ·exact .v (.v (.v (.v (.v (.v (.v (.v (.v (.nil)))))))))
 ·refine .ms 2 rfl rfl rfl ?_
  refine .ms 3 rfl rfl rfl ?_
  refine .on rfl (fun a w hS hI hp => does_val (x_bin rfl (hp.V 1 rfl rfl) (rfl) (b_add _ _ _ _ _)) rfl) ?_
  refine .on rfl (fun a w hS hI hp => does_call (by kernel_rfl) (ar3 (hp.V 0 rfl rfl) (hp.V 2 rfl rfl) (rfl)) ((octets_Get.calls k _ _ l0 (wrap64 (a1 + 8)) 2 ab ad _ (Kd.C_below HR0 hI.1) HC0 az).mono fun _ _ h => ⟨_, h.1, h.2.below, rfl⟩)) ?_
  refine .mv 3 rfl rfl rfl ?_
  iterate 2 refine .on rfl (fun a w hS hI hp => does_val (x_extract rfl (hp.V 4 rfl rfl) rfl) rfl) ?_
  refine .asg 5 rfl rfl rfl ?_
  refine .asg 6 rfl rfl rfl ?_
  exact .nil
 clear hS
 intro aN ax hS ao hp
 replace hS := ((hS.nil).cons (hS.get 1 rfl)).cons (hS.get 0 rfl)
 have au : sl _ 8 = .int .i64 ab := hp 7 (by decide)
 have hS := hS.cons au
 clear hp au
 refine aA _ _ ?_
 refine wp_seq_k (fun aS aB => ?_)
 refine reg_seq_tail 3 (I := I3_ w w3 ax) (ps := [IsV (.int .u64 aa), VI ab, IsV (.agg #[.int .u64 aa, .int .i64 ab])]) (by kernel_rfl) ?_ ?_ rfl hS ⟨ao.1, ao.2.1, (bR ax)⟩ ?_ ?_
 ·exact bs3
 ·exact .v (.v (.v (.nil)))
 ·refine .ms 1 rfl rfl rfl ?_
  refine .ms 0 rfl rfl rfl ?_
  refine .on rfl (fun a w hS hI hp => does_val (x_build (vs := [(0, .int .u64 aa), (1, .int .i64 ab)]) rfl (by rw [Array.toList_map]; exact (show [(0, a.eval (.tmp 39)), (1, a.eval (.tmp 40))] = _ from (li_cons (hp.V 0 rfl rfl) (li_cons (hp.V 1 rfl rfl) rfl)))) (by kernel_rfl)) rfl) ?_
  exact .nil
 clear hS
 intro aO aV hS ah hp
 replace hS := (hS.nil).cons (hS.get 2 rfl)
 have am : sl _ 41 = .agg #[.int .u64 aa, .int .i64 ab] := hp 2 (by decide)
 have hS := hS.cons am
 clear hp am
 show wpList _ _ _ [_, _] _ _
 refine list_step rfl (does_storeAll (g := g4) (cs := #[.int .u64 aa, .int .i64 ab]) rfl (hS.get 1 rfl) (hS.get 0 rfl) ((ah.2.1.block g4 (blk_lt ai)).trans ai) (by kernel_rfl) (by kernel_rfl) (by kernel_rfl)) ?_
 rintro aQ aL ⟨rfl, ag, hT⟩
 have aj := hT.below ah.1 ap (ah.1).size
 clear hT
 refine list_step rfl (R := fun v w' => Below _ _ w' ∧ (VB true) v w') (does_val (x_assign rfl (rfl)) rfl) ?_
 rintro aC aW ⟨hb, he⟩
 have ak := below_step aj hb
 have af := below_step (bR aL) hb
 obtain rfl : aC = .bool true := he
 refine hS.next (v := .bool true) (d := 5) rfl (by decide) (by rfl) ?_
 clear hS
 intro aP hS
 refine wpList_nil ?_
 refine aB _ _ ?_
 refine wp_ret ?_
 (try simp only [Exit.then, Exit.inBlock, Exit.jump, Exit.noGoto])
 exact bodyPost_ret (v := .tuple #[.agg #[.int .u64 aa, .int .i64 ab], .bool true]) (results_list (rs := [.cell 4 24, .tmp 5]) rfl (by simp) (Vals.cell g4 24 #[.int .u64 aa, .int .i64 ab] (0, 0) _ (hS.get 2 rfl) ((af.block g4 (blk_lt ag)).trans ag) Try.underlying24 rfl (by kernel_rfl) (Vals.at (hS.get 0 rfl) .nil))) hS.nodef ⟨rfl, ak⟩
def header_Get.f (k : Nat) (l0 : List Int) : Option (Int × Int × Int × Int × Int × Int × Int × Int × Int × Int × Int × Int × Int × Int × Int × Int × Int × Int × Int × Int × Int × Int × Int × Int × Int) := if (l0.length : Int) < 34 then (none) else ((octets_Get.f k l0 2 2).bind fun t10 => (if 0 < (l0.length : Int) then ((header_Known.f k (wrap64 (rd l0 0))).bind fun t15 => (if t15 = true then (if 1 < (l0.length : Int) then (if (Go.bits .and .u8 (rd l0 1) 15) = 2 then ((header_in.f t10.1 34 400).bind fun t16 => (if t16 = true then (if (l0.length : Int) < t10.1 then (none) else (if (l0.length : Int) > t10.1 then (none) else (if 4 < (l0.length : Int) then ((octets_Get.f k l0 6 2).bind fun t31 => ((octets_Signed.f k l0 8 8).bind fun t36 => ((ident_Get.f k l0 20).bind fun t41 => ((octets_Get.f k l0 30 2).bind fun t46 => ((octets_Signed.f k l0 33 1).bind fun t51 => (some (wrap64 (rd l0 0), wrap64 (rd l0 4), t31.1, t36.1, t41.1, t41.2.1, t46.1, t51.1, 0, 0, 0, 0, 0, 0, 0, 0, 0, 0, 0, 0, 0, 0, 0, t10.1, 0))))))) else (none)))) else (none))) else (none)) else (none)) else (none))) else (none)))
abbrev header_Get.c0 (x0 x1 x2 x3 x4 x5 x6 x7 x8 x9 x10 x11 x12 x13 x14 x15 x16 x17 x18 x19 x20 x21 x22 : Int) : Array Value := #[.int .i64 x0, .int .i64 x1, .int .i64 x2, .int .i64 x3, .int .u64 x4, .int .i64 x5, .int .i64 x6, .int .i64 x7, .int .i64 x8, .int .u64 x9, .int .i64 x10, .int .i64 x11, .int .i64 x12, .int .i64 x13, .int .i64 x14, .int .i64 x15, .int .i64 x16, .int .u64 x17, .int .i64 x18, .int .i64 x19, .int .i64 x20, .int .i64 x21, .int .i64 x22]
abbrev header_Get.v1 (x0 x1 x2 x3 x4 x5 x6 x7 x8 x9 x10 x11 x12 x13 x14 x15 x16 x17 x18 x19 x20 x21 x22 : Int) : Value := .agg #[.int .i64 x0, .int .i64 x1, .int .i64 x2, .int .i64 x3, .int .u64 x4, .int .i64 x5, .int .i64 x6, .int .i64 x7, .int .i64 x8, .int .u64 x9, .int .i64 x10, .int .i64 x11, .int .i64 x12, .int .i64 x13, .int .i64 x14, .int .i64 x15, .int .i64 x16, .int .u64 x17, .int .i64 x18, .int .i64 x19, .int .i64 x20, .int .i64 x21, .int .i64 x22]
open Go.Proofs.Ytiomlbkakiienaa.E in
set_option maxHeartbeats 60000000 in
set_option maxRecDepth 100000 in
theorem header_Get.calls (k : Nat) (A0 : Option Addr) (ak : Nat) (l0 : List Int) (r1 r2 r3 r4 r5 r6 r7 r8 r9 db dc dd de df dg dh di dj dk dl dm dn dp dq dr : Int) (w : World) (HR0 : Kd.C (Kd.int .u8) w A0 l0.length l0) (HC0 : l0.length ≤ ak) (h : header_Get.f k l0 = some (r1, r2, r3, r4, r5, r6, r7, r8, r9, db, dc, dd, de, df, dg, dh, di, dj, dk, dl, dm, dn, dp, dq, dr)) :
    Calls Try.prog 28 #[.slice A0 l0.length ak] w fun e w' => e = .returned (.tuple #[.agg #[.int .i64 r1, .int .i64 r2, .int .i64 r3, .int .i64 r4, .int .u64 r5, .int .i64 r6, .int .i64 r7, .int .i64 r8, .int .i64 r9, .int .u64 db, .int .i64 dc, .int .i64 dd, .int .i64 de, .int .i64 df, .int .i64 dg, .int .i64 dh, .int .i64 di, .int .u64 dj, .int .i64 dk, .int .i64 dl, .int .i64 dm, .int .i64 dn, .int .i64 dp], .int .i64 dq, .int .i64 dr]) ∧ Below w.heap.size w w' := by
 have H := h
 clear h
 unfold header_Get.f at H
 by_cases c1 : (l0.length : Int) < 34
 ·rw [if_pos c1] at H; exact absurd H (by simp)
 rw [if_neg c1] at H
 obtain ⟨cc, bK, H⟩ := Option.bind_eq_some_iff.mp H
 obtain ⟨aa, ar⟩ := cc
 (try dsimp only at H)
 by_cases c2 : 0 < (l0.length : Int)
 rotate_left
 ·rw [if_neg c2] at H; exact absurd H (by simp)
 rw [if_pos c2] at H
 obtain ⟨aT, bL, H⟩ := Option.bind_eq_some_iff.mp H
 by_cases c3 : aT = true
 rotate_left
 ·rw [if_neg c3] at H; exact absurd H (by simp)
 rw [if_pos c3] at H
 by_cases c4 : 1 < (l0.length : Int)
 rotate_left
 ·rw [if_neg c4] at H; exact absurd H (by simp)
 rw [if_pos c4] at H
 by_cases c5 : (Go.bits .and .u8 (rd l0 1) 15) = 2
 rotate_left
 ·rw [if_neg c5] at H; exact absurd H (by simp)
 rw [if_pos c5] at H
 obtain ⟨aB, bM, H⟩ := Option.bind_eq_some_iff.mp H
 by_cases c6 : aB = true
 rotate_left
 ·rw [if_neg c6] at H; exact absurd H (by simp)
 rw [if_pos c6] at H
 by_cases c7 : (l0.length : Int) < aa
 ·rw [if_pos c7] at H; exact absurd H (by simp)
 rw [if_neg c7] at H
 by_cases c8 : (l0.length : Int) > aa
 ·rw [if_pos c8] at H; exact absurd H (by simp)
 rw [if_neg c8] at H
 by_cases c9 : 4 < (l0.length : Int)
 rotate_left
 ·rw [if_neg c9] at H; exact absurd H (by simp)
 rw [if_pos c9] at H
 obtain ⟨cd, bN, H⟩ := Option.bind_eq_some_iff.mp H
 obtain ⟨ac, aw⟩ := cd
 (try dsimp only at H)
 obtain ⟨ce, bO, H⟩ := Option.bind_eq_some_iff.mp H
 obtain ⟨ad, ax⟩ := ce
 (try dsimp only at H)
 obtain ⟨cf, bP, H⟩ := Option.bind_eq_some_iff.mp H
 obtain ⟨af, ag, ay⟩ := cf
 (try dsimp only at H)
 obtain ⟨cg, bQ, H⟩ := Option.bind_eq_some_iff.mp H
 obtain ⟨ah, az⟩ := cg
 (try dsimp only at H)
 obtain ⟨ch, bS, H⟩ := Option.bind_eq_some_iff.mp H
 obtain ⟨ai, aA⟩ := ch
 (try dsimp only at H)
 simp only [Option.some.injEq, Prod.mk.injEq] at H
 obtain ⟨rfl, rfl, rfl, rfl, rfl, rfl, rfl, rfl, rfl, rfl, rfl, rfl, rfl, rfl, rfl, rfl, rfl, rfl, rfl, rfl, rfl, rfl, rfl, rfl, rfl⟩ := H
 refine calls_of_wp (fn := Try.f28) (by kernel_rfl) rfl ?_
 have hS := St.enter #[.slice A0 l0.length ak] 90 (by simp) [(0, .slice A0 l0.length ak)] (by simp)
 have b6 := Below.refl w.heap.size w
 refine wp_seq_k (fun K1 b7 => ?_)
 refine reg_seq (I := I1_ w) (ps := [IsB (header_Get.c0 0 0 0 0 0 0 0 0 0 0 0 0 0 0 0 0 0 0 0 0 0 0 0) 28 w.heap.size, VI 0, VI 0]) (by kernel_rfl) ?_ ?_ rfl hS b6 ?_ ?_
 ·exact bs1
 ·exact .cons (Stays.b _ _ _) (.v (.v (.nil)))
 ·refine .on rfl (fun a w hS hI hp => does_var (x_alloc rfl (by kernel_rfl)) (hI).size) ?_
  iterate 2 refine .on rfl (fun a w hS hI hp => does_val (x_assign rfl (rfl)) rfl) ?_
  exact .nil
 clear hS
 intro cS w3 hS cb hp
 obtain ⟨g4, bv, bt, aC⟩ := (show IsB _ 28 _ (sl _ 2) _ from hp 0 (by decide))
 have hS := hS.cons bv
 clear hp bv
 refine b7 _ _ ?_
 refine wp_seq_k (fun K5 b8 => ?_)
 refine wp_seq_k (fun K6 b9 => ?_)
 refine reg_seq (I := I2_ w w3) (ps := [IsV (.slice A0 l0.length ak), VI (l0.length : Int), VB (decide ((l0.length : Int) < 34))]) (by kernel_rfl) ?_ ?_ rfl hS ⟨cb, (bR w3)⟩ ?_ ?_
 ·exact bs2
 ·exact .v (.v (.v (.nil)))
 ·refine .ms 1 rfl rfl rfl ?_
  refine .on rfl (fun a w hS hI hp => does_val (x_len (e := 5) rfl (by kernel_rfl) (hp.V 0 rfl rfl)) rfl) ?_
  refine .on rfl (fun a w hS hI hp => does_val (x_bin rfl (hp.V 1 rfl rfl) (rfl) (b_lss _ _ _ _ _ _)) rfl) ?_
  exact .nil
 clear hS
 intro cT w8 hS bz hp
 have a9 : sl _ 10 = .bool (decide ((l0.length : Int) < 34)) := hp 2 (by decide)
 have hS := hS.cons a9
 clear hp a9
 refine b9 _ _ ?_
 refine wp_cond_false ((hS.get 0 rfl).trans (bF (decide_eq_false c1))) ?_
 refine wp_skip ?_
 refine b8 _ _ ?_
 refine wp_seq_k (fun K9 ca => ?_)
 refine reg_seq (I := I3_ w w3 w8) (ps := [IsV (.slice A0 l0.length ak), IsV (.tuple #[.int .i64 aa, .bool ar]), IsV (.tuple #[.int .i64 aa, .bool ar]), VI aa, VB ar, VI aa, VB ar]) (by kernel_rfl) ?_ ?_ rfl hS ⟨bz.1, bz.2, (bR w8)⟩ ?_ ?_
 ·exact bs3
 ·exact .v (.v (.v (.v (.v (.v (.v (.nil)))))))
 ·refine .ms 2 rfl rfl rfl ?_
  refine .on rfl (fun a w hS hI hp => does_call (by kernel_rfl) (ar3 (hp.V 0 rfl rfl) (rfl) (rfl)) ((octets_Get.calls k _ _ l0 2 2 aa ar _ (Kd.C_below HR0 hI.1) HC0 bK).mono fun _ _ h => ⟨_, h.1, h.2.below, rfl⟩)) ?_
  refine .mv 1 rfl rfl rfl ?_
  iterate 2 refine .on rfl (fun a w hS hI hp => does_val (x_extract rfl (hp.V 2 rfl rfl) rfl) rfl) ?_
  refine .asg 3 rfl rfl rfl ?_
  refine .asg 4 rfl rfl rfl ?_
  exact .nil
 clear hS
 intro cl bA hS bq hp
 replace hS := ((hS.nil).cons (hS.get 2 rfl)).cons (hS.get 1 rfl)
 have bw : sl _ 5 = .int .i64 aa := hp 5 (by decide)
 have hS := hS.cons bw
 clear hp bw
 refine ca _ _ ?_
 refine wp_seq_k (fun cH bT => ?_)
 refine wp_block ?_
 refine wp_seq_k (fun cI bU => ?_)
 refine reg_seq (I := I3_ w w3 bA) (ps := [IsV (.slice A0 l0.length ak), IsA (.int .u8 (rd l0 0)), IsV (.int .u8 (rd l0 0)), VI (wrap64 (rd l0 0)), VB aT, VB (!aT), VB (!aT), IsV (.slice A0 l0.length ak), IsA (.int .u8 (rd l0 1)), IsV (.int .u8 (rd l0 1)), IsV (.int .u8 (Go.bits .and .u8 (rd l0 1) 15)), VB (!decide ((Go.bits .and .u8 (rd l0 1) 15) = 2)), VB (!decide ((Go.bits .and .u8 (rd l0 1) 15) = 2)), VB (!decide ((Go.bits .and .u8 (rd l0 1) 15) = 2)), VI aa, VB aB, VB (!aB), VB (!aB), VB (!aB)]) (by kernel_rfl) ?_ ?_ rfl hS ⟨bq.1, bq.2.1, (bR bA)⟩ ?_ ?_
 ·exact bs3
 ·exact .v (.cons (Stays.a _) (.v (.v (.v (.v (.v (.v (.cons (Stays.a _) (.v (.v (.v (.v (.v (.v (.v (.v (.v (.v (.nil)))))))))))))))))))
 ·refine .ms 2 rfl rfl rfl ?_
  refine .on rfl (fun a w hS hI hp => does_index (e := 5) (xs := l0) rfl (hp.V 0 rfl rfl) (rfl) (by kernel_rfl) (by kernel_rfl) (by decide) c2 c2 ((Kd.C_below HR0 hI.1))) ?_
  refine .on rfl (fun a w hS hI hp => (hp.V 1 rfl rfl).elim fun _ h_ => does_val (x_load1 (d := .int .u8) rfl h_.1 (by kernel_rfl) rfl h_.2.2) rfl) ?_
  refine .on rfl (fun a w hS hI hp => does_val ((i64_w (rd l0 0)) ▸ x_convI rfl (by kernel_rfl) (by kernel_rfl) (hp.V 2 rfl rfl)) rfl) ?_
  refine .on rfl (fun a w hS hI hp => does_call (by kernel_rfl) (ar1 (hp.V 3 rfl rfl)) ((header_Known.calls k (wrap64 (rd l0 0)) aT _  bL).mono fun _ _ h => ⟨_, h.1, h.2.below, rfl⟩)) ?_
  refine .on rfl (fun a w hS hI hp => does_val (x_not rfl (hp.V 4 rfl rfl)) rfl) ?_
  refine .mv 5 rfl rfl rfl ?_
  refine .oy 6 24 rfl rfl ((congrArg (!·) c3)) (fun a w hS hI hp => does_val (x_move rfl (hS.get 2 rfl)) rfl) ?_
  refine .oy 6 24 rfl rfl ((congrArg (!·) c3)) (fun a w hS hI hp => does_index (e := 5) (xs := l0) rfl (hp.V 7 rfl rfl) (rfl) (by kernel_rfl) (by kernel_rfl) (by decide) c4 c4 ((Kd.C_below HR0 hI.1))) ?_
  refine .oy 6 24 rfl rfl ((congrArg (!·) c3)) (fun a w hS hI hp => (hp.V 8 rfl rfl).elim fun _ h_ => does_val (x_load1 (d := .int .u8) rfl h_.1 (by kernel_rfl) rfl h_.2.2) rfl) ?_
  refine .oy 6 24 rfl rfl ((congrArg (!·) c3)) (fun a w hS hI hp => does_val (x_bin rfl (hp.V 9 rfl rfl) (rfl) (b_and _ _ _ _ _ _)) rfl) ?_
  refine .oy 6 24 rfl rfl ((congrArg (!·) c3)) (fun a w hS hI hp => does_val (x_bin rfl (hp.V 10 rfl rfl) (rfl) (b_neq _ _ _ _ _ _)) rfl) ?_
  refine .on rfl (fun a w hS hI hp => does_val (x_pickF rfl ((hp.V 6 rfl rfl).trans (bF (congrArg (!·) c3))) (hp.V 11 rfl rfl)) rfl) ?_
  refine .mv 12 rfl rfl rfl ?_
  refine .oy 13 31 rfl rfl ((congrArg (!·) (decide_eq_true c5))) (fun a w hS hI hp => does_val (x_move rfl (hS.get 0 rfl)) rfl) ?_
  refine .oy 13 31 rfl rfl ((congrArg (!·) (decide_eq_true c5))) (fun a w hS hI hp => does_call (by kernel_rfl) (ar3 (hp.V 14 rfl rfl) (rfl) (rfl)) ((header_in.calls aa 34 400 aB _  bM).mono fun _ _ h => ⟨_, h.1, h.2.below, rfl⟩)) ?_
  refine .oy 13 31 rfl rfl ((congrArg (!·) (decide_eq_true c5))) (fun a w hS hI hp => does_val (x_not rfl (hp.V 15 rfl rfl)) rfl) ?_
  refine .on rfl (fun a w hS hI hp => does_val (x_pickF rfl ((hp.V 13 rfl rfl).trans (bF (congrArg (!·) (decide_eq_true c5)))) (hp.V 16 rfl rfl)) rfl) ?_
  refine .asg 17 rfl rfl rfl ?_
  exact .nil
 clear hS
 intro cm bB hS br hp
 have ba : sl _ 17 = .bool (!aB) := hp 18 (by decide)
 have hS := hS.cons ba
 clear hp ba
 refine bU _ _ ?_
 refine wp_cond_false ((hS.get 0 rfl).trans (bF (congrArg (!·) c6))) ?_
 refine wp_seq_k (fun cJ bV => ?_)
 refine reg_seq (I := I3_ w w3 bB) (ps := [IsV (.slice A0 l0.length ak), VI (l0.length : Int), VI aa, VB (decide ((l0.length : Int) < aa)), VB (decide ((l0.length : Int) < aa))]) (by kernel_rfl) ?_ ?_ rfl hS ⟨br.1, br.2.1, (bR bB)⟩ ?_ ?_
 ·exact bs3
 ·exact .v (.v (.v (.v (.v (.nil)))))
 ·refine .ms 3 rfl rfl rfl ?_
  refine .on rfl (fun a w hS hI hp => does_val (x_len (e := 5) rfl (by kernel_rfl) (hp.V 0 rfl rfl)) rfl) ?_
  refine .ms 1 rfl rfl rfl ?_
  refine .on rfl (fun a w hS hI hp => does_val (x_bin rfl (hp.V 1 rfl rfl) (hp.V 2 rfl rfl) (b_lss _ _ _ _ _ _)) rfl) ?_
  refine .asg 3 rfl rfl rfl ?_
  exact .nil
 clear hS
 intro cn bC hS bs hp
 replace hS := (((hS.nil).cons (hS.get 3 rfl)).cons (hS.get 2 rfl)).cons (hS.get 1 rfl)
 have bb : sl _ 37 = .bool (decide ((l0.length : Int) < aa)) := hp 4 (by decide)
 have hS := hS.cons bb
 clear hp bb
 refine bV _ _ ?_
 refine wp_cond_false ((hS.get 0 rfl).trans (bF (decide_eq_false c7))) ?_
 refine wp_seq_k (fun cK bW => ?_)
 refine reg_seq (I := I3_ w w3 bC) (ps := [IsV (.slice A0 l0.length ak), VI (l0.length : Int), VI aa, VB (decide ((l0.length : Int) > aa)), VB (decide ((l0.length : Int) > aa))]) (by kernel_rfl) ?_ ?_ rfl hS ⟨bs.1, bs.2.1, (bR bC)⟩ ?_ ?_
 ·exact bs3
 ·exact .v (.v (.v (.v (.v (.nil)))))
 ·refine .ms 3 rfl rfl rfl ?_
  refine .on rfl (fun a w hS hI hp => does_val (x_len (e := 5) rfl (by kernel_rfl) (hp.V 0 rfl rfl)) rfl) ?_
  refine .ms 1 rfl rfl rfl ?_
  refine .on rfl (fun a w hS hI hp => does_val (x_bin rfl (hp.V 1 rfl rfl) (hp.V 2 rfl rfl) (b_gtr _ _ _ _ _ _)) rfl) ?_
  refine .asg 3 rfl rfl rfl ?_
  exact .nil
 clear hS
 intro co au hS aj hp
 replace hS := (((hS.nil).cons (hS.get 3 rfl)).cons (hS.get 2 rfl)).cons (hS.get 1 rfl)
 have bc : sl _ 43 = .bool (decide ((l0.length : Int) > aa)) := hp 4 (by decide)
 have hS := hS.cons bc
 clear hp bc
 refine bW _ _ ?_
 refine wp_cond_false ((hS.get 0 rfl).trans (bF (decide_eq_false c8))) ?_
 refine wp_skip ?_
 refine bT _ _ ?_
 refine wp_seq_k (fun cL bX => ?_)
 refine reg_any_tail 10 [0, 1, 3, 7, 0, 16, 48, 112, 255, 0, 1023] (I := I3_ w w3 au) (ps := [IsV (.slice A0 l0.length ak), IsA (.int .u8 (rd l0 0)), IsV (.int .u8 (rd l0 0)), VI (wrap64 (rd l0 0)), IsV (.slice A0 l0.length ak), IsA (.int .u8 (rd l0 4)), IsV (.int .u8 (rd l0 4)), VI (wrap64 (rd l0 4)), IsV ((header_Get.v1 (wrap64 (rd l0 0)) (wrap64 (rd l0 4)) 0 0 0 0 0 0 0 0 0 0 0 0 0 0 0 0 0 0 0 0 0)), IsB (header_Get.c0 0 0 0 0 0 0 0 0 0 0 0 0 0 0 0 0 0 0 0 0 0 0 0) 28 au.heap.size]) (by kernel_rfl) (by kernel_rfl) (by kernel_rfl) (by decide) ?_ ?_ rfl hS ⟨aj.1, aj.2.1, (bR au)⟩ ?_ ?_
 ·exact bs3
 ·exact .v (.cons (Stays.a _) (.v (.v (.v (.cons (Stays.a _) (.v (.v (.v (.cons (Stays.b _ _ _) (.nil))))))))))
 ·refine .ms 3 rfl rfl rfl ?_
  refine .on rfl (fun a w hS hI hp => does_index (e := 5) (xs := l0) rfl (hp.V 0 rfl rfl) (rfl) (by kernel_rfl) (by kernel_rfl) (by decide) c2 c2 ((Kd.C_below HR0 hI.1))) ?_
  refine .on rfl (fun a w hS hI hp => (hp.V 1 rfl rfl).elim fun _ h_ => does_val (x_load1 (d := .int .u8) rfl h_.1 (by kernel_rfl) rfl h_.2.2) rfl) ?_
  refine .on rfl (fun a w hS hI hp => does_val ((i64_w (rd l0 0)) ▸ x_convI rfl (by kernel_rfl) (by kernel_rfl) (hp.V 2 rfl rfl)) rfl) ?_
  refine .ms 3 rfl rfl rfl ?_
  refine .on rfl (fun a w hS hI hp => does_index (e := 5) (xs := l0) rfl (hp.V 4 rfl rfl) (rfl) (by kernel_rfl) (by kernel_rfl) (by decide) c9 c9 ((Kd.C_below HR0 hI.1))) ?_
  refine .on rfl (fun a w hS hI hp => (hp.V 5 rfl rfl).elim fun _ h_ => does_val (x_load1 (d := .int .u8) rfl h_.1 (by kernel_rfl) rfl h_.2.2) rfl) ?_
  refine .on rfl (fun a w hS hI hp => does_val ((i64_w (rd l0 4)) ▸ x_convI rfl (by kernel_rfl) (by kernel_rfl) (hp.V 6 rfl rfl)) rfl) ?_
  refine .on rfl (fun a w hS hI hp => does_val (x_build (vs := [(0, .int .i64 (wrap64 (rd l0 0))), (1, .int .i64 (wrap64 (rd l0 4)))]) rfl (by rw [Array.toList_map]; exact (show [(0, a.eval (.tmp 52)), (1, a.eval (.tmp 56))] = _ from (li_cons (hp.V 3 rfl rfl) (li_cons (hp.V 7 rfl rfl) rfl)))) (by kernel_rfl)) rfl) ?_
  refine .on rfl (fun a w hS hI hp => does_var (x_alloc rfl (by kernel_rfl)) (hI.2.2).size) ?_
  exact .nil
 clear hS
 intro cp ci hS av hp
 replace hS := (((hS.nil).cons (hS.get 3 rfl)).cons (hS.get 2 rfl)).cons (hS.get 1 rfl)
 have bd : sl _ 57 = (header_Get.v1 (wrap64 (rd l0 0)) (wrap64 (rd l0 4)) 0 0 0 0 0 0 0 0 0 0 0 0 0 0 0 0 0 0 0 0 0) := hp 8 (by decide)
 obtain ⟨ae, bx, ab, aM⟩ := (show IsB _ 28 _ (sl _ 7) _ from hp 9 (by decide))
 have hS := hS.cons bd
 have hS := hS.cons bx
 clear hp bd bx
 show wpList _ _ _ [_] _ _
 refine list_step rfl (does_storeAll (g := ae) (cs := (header_Get.c0 (wrap64 (rd l0 0)) (wrap64 (rd l0 4)) 0 0 0 0 0 0 0 0 0 0 0 0 0 0 0 0 0 0 0 0 0)) rfl (hS.get 0 rfl) (hS.get 1 rfl) (((bR ci).block ae (blk_lt aM)).trans aM) (by kernel_rfl) (by kernel_rfl) (by kernel_rfl)) ?_
 rintro cA bD ⟨rfl, aN, hT⟩
 have a0 := hT.below av.1 (Nat.le_trans (aj.1).size ab) (av.1).size
 have aU := hT.below av.2.1 (Nat.le_trans (aj.2.1).size ab) (av.2.1).size
 have aE := hT.below av.2.2 ab (av.2.2).size
 clear hT
 refine wpList_nil ?_
 refine bX _ _ ?_
 refine wp_seq_k (fun cM bY => ?_)
 refine reg_seq_tail 6 (I := I4_ w w3 au bD) (ps := [IsV (.slice A0 l0.length ak), IsV (.tuple #[.int .i64 ac, .bool aw]), IsV (.tuple #[.int .i64 ac, .bool aw]), VI ac, VB aw, VP ae 2]) (by kernel_rfl) ?_ ?_ rfl hS ⟨a0, aU, aE, (bR bD)⟩ ?_ ?_
 ·exact bs4
 ·exact .v (.v (.v (.v (.v (.v (.nil))))))
 ·refine .ms 4 rfl rfl rfl ?_
  refine .on rfl (fun a w hS hI hp => does_call (by kernel_rfl) (ar3 (hp.V 0 rfl rfl) (rfl) (rfl)) ((octets_Get.calls k _ _ l0 6 2 ac aw _ (Kd.C_below HR0 hI.1) HC0 bN).mono fun _ _ h => ⟨_, h.1, h.2.below, rfl⟩)) ?_
  refine .mv 1 rfl rfl rfl ?_
  iterate 2 refine .on rfl (fun a w hS hI hp => does_val (x_extract rfl (hp.V 2 rfl rfl) rfl) rfl) ?_
  refine .on rfl (fun a w hS hI hp => does_val (x_fieldE (b := 0) rfl (hS.get 0 rfl) Try.underlying28 rfl rfl (by kernel_rfl)) rfl) ?_
  exact .nil
 clear hS
 intro cq cU hS al hp
 replace hS := ((((hS.nil).cons (hS.get 4 rfl)).cons (hS.get 3 rfl)).cons (hS.get 2 rfl)).cons (hS.get 0 rfl)
 have be : sl _ 61 = .int .i64 ac := hp 3 (by decide)
 have bf : sl _ 63 = .pointer (some ⟨ae, 2, none⟩) := hp 5 (by decide)
 have hS := hS.cons be
 have hS := hS.cons bf
 clear hp be bf
 show wpList _ _ _ [_] _ _
 refine list_step rfl (does_store (g := ae) (off := 2) (v := .int .i64 ac) (new := (header_Get.c0 (wrap64 (rd l0 0)) (wrap64 (rd l0 4)) ac 0 0 0 0 0 0 0 0 0 0 0 0 0 0 0 0 0 0 0 0)) rfl (hS.get 0 rfl) (hS.get 1 rfl) ((al.2.2.2.block ae (blk_lt aN)).trans aN) (by kernel_rfl) (by kernel_rfl) (by kernel_rfl) (by kernel_rfl)) ?_
 rintro cB bE ⟨rfl, aO, hT⟩
 have a1 := hT.below al.1 (Nat.le_trans (aj.1).size ab) (al.1).size
 have aV := hT.below al.2.1 (Nat.le_trans (aj.2.1).size ab) (al.2.1).size
 have aF := hT.below al.2.2.1 ab (al.2.2.1).size
 clear hT
 refine wpList_nil ?_
 refine bY _ _ ?_
 refine wp_seq_k (fun cN bZ => ?_)
 refine reg_seq_tail 6 (I := I4_ w w3 au bE) (ps := [IsV (.slice A0 l0.length ak), IsV (.tuple #[.int .i64 ad, .bool ax]), IsV (.tuple #[.int .i64 ad, .bool ax]), VI ad, VB ax, VP ae 3]) (by kernel_rfl) ?_ ?_ rfl hS ⟨a1, aV, aF, (bR bE)⟩ ?_ ?_
 ·exact bs4
 ·exact .v (.v (.v (.v (.v (.v (.nil))))))
 ·refine .ms 5 rfl rfl rfl ?_
  refine .on rfl (fun a w hS hI hp => does_call (by kernel_rfl) (ar3 (hp.V 0 rfl rfl) (rfl) (rfl)) ((octets_Signed.calls k _ _ l0 8 8 ad ax _ (Kd.C_below HR0 hI.1) HC0 bO).mono fun _ _ h => ⟨_, h.1, h.2, rfl⟩)) ?_
  refine .mv 1 rfl rfl rfl ?_
  iterate 2 refine .on rfl (fun a w hS hI hp => does_val (x_extract rfl (hp.V 2 rfl rfl) rfl) rfl) ?_
  refine .on rfl (fun a w hS hI hp => does_val (x_fieldE (b := 0) rfl (hS.get 2 rfl) Try.underlying28 rfl rfl (by kernel_rfl)) rfl) ?_
  exact .nil
 clear hS
 intro cr cV hS am hp
 replace hS := ((((hS.nil).cons (hS.get 5 rfl)).cons (hS.get 4 rfl)).cons (hS.get 3 rfl)).cons (hS.get 2 rfl)
 have bg : sl _ 67 = .int .i64 ad := hp 3 (by decide)
 have bh : sl _ 69 = .pointer (some ⟨ae, 3, none⟩) := hp 5 (by decide)
 have hS := hS.cons bg
 have hS := hS.cons bh
 clear hp bg bh
 show wpList _ _ _ [_] _ _
 refine list_step rfl (does_store (g := ae) (off := 3) (v := .int .i64 ad) (new := (header_Get.c0 (wrap64 (rd l0 0)) (wrap64 (rd l0 4)) ac ad 0 0 0 0 0 0 0 0 0 0 0 0 0 0 0 0 0 0 0)) rfl (hS.get 0 rfl) (hS.get 1 rfl) ((am.2.2.2.block ae (blk_lt aO)).trans aO) (by kernel_rfl) (by kernel_rfl) (by kernel_rfl) (by kernel_rfl)) ?_
 rintro cC bG ⟨rfl, aP, hT⟩
 have a2 := hT.below am.1 (Nat.le_trans (aj.1).size ab) (am.1).size
 have aW := hT.below am.2.1 (Nat.le_trans (aj.2.1).size ab) (am.2.1).size
 have aG := hT.below am.2.2.1 ab (am.2.2.1).size
 clear hT
 refine wpList_nil ?_
 refine bZ _ _ ?_
 refine wp_seq_k (fun cO b0 => ?_)
 refine reg_seq_tail 6 (I := I4_ w w3 au bG) (ps := [IsV (.slice A0 l0.length ak), IsV (.tuple #[.agg #[.int .u64 af, .int .i64 ag], .bool ay]), IsV (.tuple #[.agg #[.int .u64 af, .int .i64 ag], .bool ay]), IsV (.agg #[.int .u64 af, .int .i64 ag]), VB ay, VP ae 4]) (by kernel_rfl) ?_ ?_ rfl hS ⟨a2, aW, aG, (bR bG)⟩ ?_ ?_
 ·exact bs4
 ·exact .v (.v (.v (.v (.v (.v (.nil))))))
 ·refine .ms 5 rfl rfl rfl ?_
  refine .on rfl (fun a w hS hI hp => does_call (by kernel_rfl) (ar2 (hp.V 0 rfl rfl) (rfl)) ((ident_Get.calls k _ _ l0 20 af ag ay _ (Kd.C_below HR0 hI.1) HC0 bP).mono fun _ _ h => ⟨_, h.1, h.2, rfl⟩)) ?_
  refine .mv 1 rfl rfl rfl ?_
  iterate 2 refine .on rfl (fun a w hS hI hp => does_val (x_extract rfl (hp.V 2 rfl rfl) rfl) rfl) ?_
  refine .on rfl (fun a w hS hI hp => does_val (x_fieldE (b := 0) rfl (hS.get 2 rfl) Try.underlying28 rfl rfl (by kernel_rfl)) rfl) ?_
  exact .nil
 clear hS
 intro ct cW hS an hp
 replace hS := ((((hS.nil).cons (hS.get 5 rfl)).cons (hS.get 4 rfl)).cons (hS.get 3 rfl)).cons (hS.get 2 rfl)
 have bi : sl _ 73 = .agg #[.int .u64 af, .int .i64 ag] := hp 3 (by decide)
 have bj : sl _ 75 = .pointer (some ⟨ae, 4, none⟩) := hp 5 (by decide)
 have hS := hS.cons bi
 have hS := hS.cons bj
 clear hp bi bj
 show wpList _ _ _ [_] _ _
 refine list_step rfl (does_store (g := ae) (off := 4) (v := .agg #[.int .u64 af, .int .i64 ag]) (new := (header_Get.c0 (wrap64 (rd l0 0)) (wrap64 (rd l0 4)) ac ad af ag 0 0 0 0 0 0 0 0 0 0 0 0 0 0 0 0 0)) rfl (hS.get 0 rfl) (hS.get 1 rfl) ((an.2.2.2.block ae (blk_lt aP)).trans aP) (by kernel_rfl) (by kernel_rfl) (by kernel_rfl) (by kernel_rfl)) ?_
 rintro cD bH ⟨rfl, aQ, hT⟩
 have a3 := hT.below an.1 (Nat.le_trans (aj.1).size ab) (an.1).size
 have aX := hT.below an.2.1 (Nat.le_trans (aj.2.1).size ab) (an.2.1).size
 have aH := hT.below an.2.2.1 ab (an.2.2.1).size
 clear hT
 refine wpList_nil ?_
 refine b0 _ _ ?_
 refine wp_seq_k (fun cP b1 => ?_)
 refine reg_seq_tail 6 (I := I4_ w w3 au bH) (ps := [IsV (.slice A0 l0.length ak), IsV (.tuple #[.int .i64 ah, .bool az]), IsV (.tuple #[.int .i64 ah, .bool az]), VI ah, VB az, VP ae 6]) (by kernel_rfl) ?_ ?_ rfl hS ⟨a3, aX, aH, (bR bH)⟩ ?_ ?_
 ·exact bs4
 ·exact .v (.v (.v (.v (.v (.v (.nil))))))
 ·refine .ms 5 rfl rfl rfl ?_
  refine .on rfl (fun a w hS hI hp => does_call (by kernel_rfl) (ar3 (hp.V 0 rfl rfl) (rfl) (rfl)) ((octets_Get.calls k _ _ l0 30 2 ah az _ (Kd.C_below HR0 hI.1) HC0 bQ).mono fun _ _ h => ⟨_, h.1, h.2.below, rfl⟩)) ?_
  refine .mv 1 rfl rfl rfl ?_
  iterate 2 refine .on rfl (fun a w hS hI hp => does_val (x_extract rfl (hp.V 2 rfl rfl) rfl) rfl) ?_
  refine .on rfl (fun a w hS hI hp => does_val (x_fieldE (b := 0) rfl (hS.get 2 rfl) Try.underlying28 rfl rfl (by kernel_rfl)) rfl) ?_
  exact .nil
 clear hS
 intro cu cX hS ao hp
 replace hS := ((((hS.nil).cons (hS.get 5 rfl)).cons (hS.get 4 rfl)).cons (hS.get 3 rfl)).cons (hS.get 2 rfl)
 have bk : sl _ 79 = .int .i64 ah := hp 3 (by decide)
 have bl : sl _ 81 = .pointer (some ⟨ae, 6, none⟩) := hp 5 (by decide)
 have hS := hS.cons bk
 have hS := hS.cons bl
 clear hp bk bl
 show wpList _ _ _ [_] _ _
 refine list_step rfl (does_store (g := ae) (off := 6) (v := .int .i64 ah) (new := (header_Get.c0 (wrap64 (rd l0 0)) (wrap64 (rd l0 4)) ac ad af ag ah 0 0 0 0 0 0 0 0 0 0 0 0 0 0 0 0)) rfl (hS.get 0 rfl) (hS.get 1 rfl) ((ao.2.2.2.block ae (blk_lt aQ)).trans aQ) (by kernel_rfl) (by kernel_rfl) (by kernel_rfl) (by kernel_rfl)) ?_
 rintro cE bI ⟨rfl, aR, hT⟩
 have a4 := hT.below ao.1 (Nat.le_trans (aj.1).size ab) (ao.1).size
 have aY := hT.below ao.2.1 (Nat.le_trans (aj.2.1).size ab) (ao.2.1).size
 have aI := hT.below ao.2.2.1 ab (ao.2.2.1).size
 clear hT
 refine wpList_nil ?_
 refine b1 _ _ ?_
 refine wp_seq_k (fun cQ b2 => ?_)
 refine reg_seq_tail 6 (I := I4_ w w3 au bI) (ps := [IsV (.slice A0 l0.length ak), IsV (.tuple #[.int .i64 ai, .bool aA]), IsV (.tuple #[.int .i64 ai, .bool aA]), VI ai, VB aA, VP ae 7]) (by kernel_rfl) ?_ ?_ rfl hS ⟨a4, aY, aI, (bR bI)⟩ ?_ ?_
 ·exact bs4
 ·exact .v (.v (.v (.v (.v (.v (.nil))))))
 ·refine .ms 5 rfl rfl rfl ?_
  refine .on rfl (fun a w hS hI hp => does_call (by kernel_rfl) (ar3 (hp.V 0 rfl rfl) (rfl) (rfl)) ((octets_Signed.calls k _ _ l0 33 1 ai aA _ (Kd.C_below HR0 hI.1) HC0 bS).mono fun _ _ h => ⟨_, h.1, h.2, rfl⟩)) ?_
  refine .mv 1 rfl rfl rfl ?_
  iterate 2 refine .on rfl (fun a w hS hI hp => does_val (x_extract rfl (hp.V 2 rfl rfl) rfl) rfl) ?_
  refine .on rfl (fun a w hS hI hp => does_val (x_fieldE (b := 0) rfl (hS.get 2 rfl) Try.underlying28 rfl rfl (by kernel_rfl)) rfl) ?_
  exact .nil
 clear hS
 intro cv cY hS ap hp
 replace hS := (((hS.nil).cons (hS.get 4 rfl)).cons (hS.get 3 rfl)).cons (hS.get 2 rfl)
 have bm : sl _ 85 = .int .i64 ai := hp 3 (by decide)
 have bn : sl _ 87 = .pointer (some ⟨ae, 7, none⟩) := hp 5 (by decide)
 have hS := hS.cons bm
 have hS := hS.cons bn
 clear hp bm bn
 show wpList _ _ _ [_] _ _
 refine list_step rfl (does_store (g := ae) (off := 7) (v := .int .i64 ai) (new := (header_Get.c0 (wrap64 (rd l0 0)) (wrap64 (rd l0 4)) ac ad af ag ah ai 0 0 0 0 0 0 0 0 0 0 0 0 0 0 0)) rfl (hS.get 0 rfl) (hS.get 1 rfl) ((ap.2.2.2.block ae (blk_lt aR)).trans aR) (by kernel_rfl) (by kernel_rfl) (by kernel_rfl) (by kernel_rfl)) ?_
 rintro cF bJ ⟨rfl, aq, hT⟩
 have a5 := hT.below ap.1 (Nat.le_trans (aj.1).size ab) (ap.1).size
 have aZ := hT.below ap.2.1 (Nat.le_trans (aj.2.1).size ab) (ap.2.1).size
 have aJ := hT.below ap.2.2.1 ab (ap.2.2.1).size
 clear hT
 refine wpList_nil ?_
 refine b2 _ _ ?_
 refine wp_seq_k (fun cR b3 => ?_)
 refine reg_seq_tail 2 (I := I4_ w w3 au bJ) (ps := [IsV ((header_Get.v1 (wrap64 (rd l0 0)) (wrap64 (rd l0 4)) ac ad af ag ah ai 0 0 0 0 0 0 0 0 0 0 0 0 0 0 0)), VI aa]) (by kernel_rfl) ?_ ?_ rfl hS ⟨a5, aZ, aJ, (bR bJ)⟩ ?_ ?_
 ·exact bs4
 ·exact .v (.v (.nil))
 ·refine .on rfl (fun a w hS hI hp => does_loadrow rfl (hS.get 2 rfl) (((hI.2.2.2).block ae (blk_lt aq)).trans aq) Try.underlying28 rfl (by kernel_rfl) rfl) ?_
  refine .ms 3 rfl rfl rfl ?_
  exact .nil
 clear hS
 intro cw cZ hS aD hp
 replace hS := (hS.nil).cons (hS.get 4 rfl)
 have bo : sl _ 88 = (header_Get.v1 (wrap64 (rd l0 0)) (wrap64 (rd l0 4)) ac ad af ag ah ai 0 0 0 0 0 0 0 0 0 0 0 0 0 0 0) := hp 0 (by decide)
 have bp : sl _ 89 = .int .i64 aa := hp 1 (by decide)
 have hS := hS.cons bo
 have hS := hS.cons bp
 clear hp bo bp
 show wpList _ _ _ [_, _, _] _ _
 refine list_step rfl (does_storeAll (g := g4) (cs := (header_Get.c0 (wrap64 (rd l0 0)) (wrap64 (rd l0 4)) ac ad af ag ah ai 0 0 0 0 0 0 0 0 0 0 0 0 0 0 0)) rfl (hS.get 2 rfl) (hS.get 1 rfl) ((aD.2.1.block g4 (blk_lt aC)).trans aC) (by kernel_rfl) (by kernel_rfl) (by kernel_rfl)) ?_
 rintro cG cj ⟨rfl, aS, hT⟩
 have cz := hT.blk ((aD.2.2.2.block ae (blk_lt aq)).trans aq) (Nat.ne_of_gt (Nat.lt_of_lt_of_le (Nat.lt_of_lt_of_le (blk_lt aC) (aj.2.1).size) ab))
 have a6 := hT.below aD.1 bt (aD.1).size
 clear hT
 refine list_step rfl (R := fun v w' => Below _ _ w' ∧ (VI aa) v w') (does_val (x_assign rfl (hS.get 0 rfl)) rfl) ?_
 rintro b4 ck ⟨hb, he⟩
 have a7 := below_step a6 hb
 have aK := below_step (bR cj) hb
 obtain rfl : b4 = .int .i64 aa := he
 refine hS.next (v := .int .i64 aa) (d := 3) rfl (by decide) (by rfl) ?_
 clear hS
 intro cx hS
 refine list_step rfl (R := fun v w' => Below _ _ w' ∧ (VI 0) v w') (does_val (x_assign rfl (rfl)) rfl) ?_
 rintro b5 da ⟨hb, he⟩
 have a8 := below_step a7 hb
 have aL := below_step aK hb
 have bu := below_step (bR ck) hb
 obtain rfl : b5 = .int .i64 0 := he
 refine hS.next (v := .int .i64 0) (d := 4) rfl (by decide) (by rfl) ?_
 clear hS
 intro cy hS
 refine wpList_nil ?_
 refine b3 _ _ ?_
 refine wp_ret ?_
 (try simp only [Exit.then, Exit.inBlock, Exit.jump, Exit.noGoto])
 exact bodyPost_ret (v := .tuple #[(header_Get.v1 (wrap64 (rd l0 0)) (wrap64 (rd l0 4)) ac ad af ag ah ai 0 0 0 0 0 0 0 0 0 0 0 0 0 0 0), .int .i64 aa, .int .i64 0]) (results_list (rs := [.cell 2 28, .tmp 3, .tmp 4]) rfl (by simp) (Vals.cell g4 28 (header_Get.c0 (wrap64 (rd l0 0)) (wrap64 (rd l0 4)) ac ad af ag ah ai 0 0 0 0 0 0 0 0 0 0 0 0 0 0 0) (0, 0) _ (hS.get 4 rfl) ((aL.block g4 (blk_lt aS)).trans aS) Try.underlying28 rfl (by kernel_rfl) (Vals.at (hS.get 1 rfl) (Vals.at (hS.get 0 rfl) .nil)))) hS.nodef ⟨rfl, a8⟩
mutual
def body_Len.j0 : Nat → Int → Bool → Option (Int)
  | 0, _, _ => none
  | k + 1, x3, x4 => if x4 = true then (some 10) else (if x3 = 2 then (body_Len.j1 k x3 (x3 == 2)) else (if x3 = 3 then (body_Len.j1 k x3 (x3 == 3)) else (if x3 = 10 then (body_Len.j1 k x3 (x3 == 10)) else (body_Len.j1 k x3 (x3 == 9)))))
def body_Len.j1 : Nat → Int → Bool → Option (Int)
  | 0, _, _ => none
  | k + 1, x3, x9 => if x9 = true then (some 20) else (if x3 = 11 then (some 30) else (if x3 = 13 then (some 14) else (some 0)))
end
def body_Len.f (k : Nat) (a0 : Int) : Option (Int) := if a0 = 0 then (body_Len.j0 k a0 (a0 == 0)) else (if a0 = 1 then (body_Len.j0 k a0 (a0 == 1)) else (if a0 = 8 then (body_Len.j0 k a0 (a0 == 8)) else (body_Len.j0 k a0 (a0 == 12))))
set_option maxHeartbeats 8000000 in
set_option maxRecDepth 100000 in
theorem body_Len.calls (k : Nat) (a0 : Int) (r : Int) (w : World) (h : body_Len.f k a0 = some r) :
    Calls Try.prog 63 #[.int .i64 a0] w fun e w' => e = .returned (.int .i64 r) ∧ Drawn0 w w' := by
  have H : (if a0 = 0 then (body_Len.j0 k a0 (a0 == 0)) else (if a0 = 1 then (body_Len.j0 k a0 (a0 == 1)) else (if a0 = 8 then (body_Len.j0 k a0 (a0 == 8)) else (body_Len.j0 k a0 (a0 == 12))))) = some r := h
  clear h
  have HC2 := Aside0.mk H
  clear H
  go_enter Try.func63, Try.ntmps63
  go_upto_if 4 with (fail)
  go_cut [4] (fun v4 wc => ∃ (kq : Nat) (x4_1 : Bool), v4 = .bool x4_1 ∧ Aside0 (body_Len.j0 kq a0 x4_1 = some r) ∧ Aside0 (kq ≤ k) ∧ Drawn0 w wc)
  case first =>
    have H := HC2.out
    clear HC2
    by_cases c3 : a0 = 0
    · rw [if_pos c3] at H
      have c3b0 : (a0 == 0) = true := beq_iff_eq.mpr c3
      have c3b1 : (a0 != 0) = false := bne_eq_false_iff_eq.mpr c3
      clear c3
      (first | rw [c3b0] | (simp only [i64_w, i32_w]; rw [c3b0]) | skip)
      have H' := Aside0.mk H
      clear H
      go_wp2
      go_meet
      case rel => exact ⟨_, ((a0 == 0)), (by first | rfl | (simp; done) | (simp [*]; done)), H', ⟨by first | omega | exact Nat.le_refl _⟩, by repeat (first | exact Drawn0.refl _ | apply Drawn0.step)⟩
    · rw [if_neg c3] at H
      have c3b0 : (a0 == 0) = false := beq_eq_false_iff_ne.mpr c3
      have c3b1 : (a0 != 0) = true := bne_iff_ne.mpr c3
      (first | rw [c3b0] | (simp only [i64_w, i32_w]; rw [c3b0]) | skip)
      by_cases c4 : a0 = 1
      · rw [if_pos c4] at H
        have c4b0 : (a0 == 1) = true := beq_iff_eq.mpr c4
        have c4b1 : (a0 != 1) = false := bne_eq_false_iff_eq.mpr c4
        clear c4
        have H' := Aside0.mk H
        clear H
        go_wp2
        go_meet
        case rel => exact ⟨_, ((a0 == 1)), (by first | rfl | (simp; done) | (simp [*]; done)), H', ⟨by first | omega | exact Nat.le_refl _⟩, by repeat (first | exact Drawn0.refl _ | apply Drawn0.step)⟩
      · rw [if_neg c4] at H
        have c4b0 : (a0 == 1) = false := beq_eq_false_iff_ne.mpr c4
        have c4b1 : (a0 != 1) = true := bne_iff_ne.mpr c4
        by_cases c5 : a0 = 8
        · rw [if_pos c5] at H
          have c5b0 : (a0 == 8) = true := beq_iff_eq.mpr c5
          have c5b1 : (a0 != 8) = false := bne_eq_false_iff_eq.mpr c5
          clear c5
          have H' := Aside0.mk H
          clear H
          go_wp2
          go_meet
          case rel => exact ⟨_, ((a0 == 8)), (by first | rfl | (simp; done) | (simp [*]; done)), H', ⟨by first | omega | exact Nat.le_refl _⟩, by repeat (first | exact Drawn0.refl _ | apply Drawn0.step)⟩
        · rw [if_neg c5] at H
          have c5b0 : (a0 == 8) = false := beq_eq_false_iff_ne.mpr c5
          have c5b1 : (a0 != 8) = true := bne_iff_ne.mpr c5
          have H' := Aside0.mk H
          clear H
          go_wp2
          go_meet
          case rel => exact ⟨_, ((a0 == 12)), (by first | rfl | (simp; done) | (simp [*]; done)), H', ⟨by first | omega | exact Nat.le_refl _⟩, by repeat (first | exact Drawn0.refl _ | apply Drawn0.step)⟩
  case rest =>
    clear HC2
    try clear p2
    try clear c3
    try clear c3b0
    try clear c3b1
    try clear c4
    try clear c4b0
    try clear c4b1
    try clear c5
    try clear c5b0
    try clear c5b1
    obtain ⟨kq, x4_1, rfl, HA, HJ1, ⟨mc1, rfl⟩⟩ := hcut
    cases kq with
    | zero => exact absurd HA.out (by simp [body_Len.j0])
    | succ kj1 =>
      have H := HA.out
      clear HA
      simp only [body_Len.j0] at H
      by_cases c6 : x4_1 = true
      · subst c6
        have H1 : (some 10) = some r := by rw [if_pos rfl] at H; exact H
        clear H
        have H := H1
        clear H1
        obtain rfl := Option.some.inj H
        go_wp2
        all_goals
          go_ret
          exact ⟨by first | rfl | (simp; done) | (simp [*]; done), by repeat (first | exact Drawn0.refl _ | apply Drawn0.step)⟩
      · replace c6 := Bool.eq_false_iff.mpr c6
        subst c6
        have H1 : (if a0 = 2 then (body_Len.j1 kj1 a0 (a0 == 2)) else (if a0 = 3 then (body_Len.j1 kj1 a0 (a0 == 3)) else (if a0 = 10 then (body_Len.j1 kj1 a0 (a0 == 10)) else (body_Len.j1 kj1 a0 (a0 == 9))))) = some r := by rw [if_neg (show ¬ (false = true) by decide)] at H; exact H
        clear H
        have H := H1
        clear H1
        have HC7 := Aside0.mk H
        clear H
        go_upto_if 9 with (fail)
        go_cut [9] (fun v9 wc => ∃ (kq : Nat) (x9_6 : Bool), v9 = .bool x9_6 ∧ Aside0 (body_Len.j1 kq a0 x9_6 = some r) ∧ Aside0 (kq ≤ kj1) ∧ Drawn0 w wc)
        case first =>
          have H := HC7.out
          clear HC7
          by_cases c8 : a0 = 2
          · rw [if_pos c8] at H
            have c8b0 : (a0 == 2) = true := beq_iff_eq.mpr c8
            have c8b1 : (a0 != 2) = false := bne_eq_false_iff_eq.mpr c8
            clear c8
            (first | rw [c8b0] | (simp only [i64_w, i32_w]; rw [c8b0]) | skip)
            have H' := Aside0.mk H
            clear H
            go_wp2
            go_meet
            case rel => exact ⟨_, ((a0 == 2)), (by first | rfl | (simp; done) | (simp [*]; done)), H', ⟨by have := HJ1.out; first | omega | exact Nat.le_refl _⟩, by repeat (first | exact Drawn0.refl _ | apply Drawn0.step)⟩
          · rw [if_neg c8] at H
            have c8b0 : (a0 == 2) = false := beq_eq_false_iff_ne.mpr c8
            have c8b1 : (a0 != 2) = true := bne_iff_ne.mpr c8
            (first | rw [c8b0] | (simp only [i64_w, i32_w]; rw [c8b0]) | skip)
            by_cases c9 : a0 = 3
            · rw [if_pos c9] at H
              have c9b0 : (a0 == 3) = true := beq_iff_eq.mpr c9
              have c9b1 : (a0 != 3) = false := bne_eq_false_iff_eq.mpr c9
              clear c9
              have H' := Aside0.mk H
              clear H
              go_wp2
              go_meet
              case rel => exact ⟨_, ((a0 == 3)), (by first | rfl | (simp; done) | (simp [*]; done)), H', ⟨by have := HJ1.out; first | omega | exact Nat.le_refl _⟩, by repeat (first | exact Drawn0.refl _ | apply Drawn0.step)⟩
            · rw [if_neg c9] at H
              have c9b0 : (a0 == 3) = false := beq_eq_false_iff_ne.mpr c9
              have c9b1 : (a0 != 3) = true := bne_iff_ne.mpr c9
              by_cases c10 : a0 = 10
              · rw [if_pos c10] at H
                have c10b0 : (a0 == 10) = true := beq_iff_eq.mpr c10
                have c10b1 : (a0 != 10) = false := bne_eq_false_iff_eq.mpr c10
                clear c10
                have H' := Aside0.mk H
                clear H
                go_wp2
                go_meet
                case rel => exact ⟨_, ((a0 == 10)), (by first | rfl | (simp; done) | (simp [*]; done)), H', ⟨by have := HJ1.out; first | omega | exact Nat.le_refl _⟩, by repeat (first | exact Drawn0.refl _ | apply Drawn0.step)⟩
              · rw [if_neg c10] at H
                have c10b0 : (a0 == 10) = false := beq_eq_false_iff_ne.mpr c10
                have c10b1 : (a0 != 10) = true := bne_iff_ne.mpr c10
                have H' := Aside0.mk H
                clear H
                go_wp2
                go_meet
                case rel => exact ⟨_, ((a0 == 9)), (by first | rfl | (simp; done) | (simp [*]; done)), H', ⟨by have := HJ1.out; first | omega | exact Nat.le_refl _⟩, by repeat (first | exact Drawn0.refl _ | apply Drawn0.step)⟩
        case rest =>
          clear HC7
          try clear c1
          try clear p2
          try clear c3
          try clear c3b0
          try clear c3b1
          try clear c4
          try clear c4b0
          try clear c4b1
          try clear c5
          try clear c5b0
          try clear c5b1
          try clear c6
          try clear c8
          try clear c8b0
          try clear c8b1
          try clear c9
          try clear c9b0
          try clear c9b1
          try clear c10
          try clear c10b0
          try clear c10b1
          try clear p2
          obtain ⟨kq, x9_6, rfl, HA, HJ6, ⟨mc6, rfl⟩⟩ := hcut
          cases kq with
          | zero => exact absurd HA.out (by simp [body_Len.j1])
          | succ kj6 =>
            have H := HA.out
            clear HA
            simp only [body_Len.j1] at H
            by_cases c11 : x9_6 = true
            · subst c11
              have H1 : (some 20) = some r := by rw [if_pos rfl] at H; exact H
              clear H
              have H := H1
              clear H1
              obtain rfl := Option.some.inj H
              go_wp2
              all_goals
                go_ret
                exact ⟨by first | rfl | (simp; done) | (simp [*]; done), by repeat (first | exact Drawn0.refl _ | apply Drawn0.step)⟩
            · replace c11 := Bool.eq_false_iff.mpr c11
              subst c11
              have H1 : (if a0 = 11 then (some 30) else (if a0 = 13 then (some 14) else (some 0))) = some r := by rw [if_neg (show ¬ (false = true) by decide)] at H; exact H
              clear H
              have H := H1
              clear H1
              by_cases c12 : a0 = 11
              · rw [if_pos c12] at H
                have c12b0 : (a0 == 11) = true := beq_iff_eq.mpr c12
                have c12b1 : (a0 != 11) = false := bne_eq_false_iff_eq.mpr c12
                clear c12
                obtain rfl := Option.some.inj H
                go_wp2
                all_goals
                  go_ret
                  exact ⟨by first | rfl | (simp; done) | (simp [*]; done), by repeat (first | exact Drawn0.refl _ | apply Drawn0.step)⟩
              · rw [if_neg c12] at H
                have c12b0 : (a0 == 11) = false := beq_eq_false_iff_ne.mpr c12
                have c12b1 : (a0 != 11) = true := bne_iff_ne.mpr c12
                by_cases c13 : a0 = 13
                · rw [if_pos c13] at H
                  have c13b0 : (a0 == 13) = true := beq_iff_eq.mpr c13
                  have c13b1 : (a0 != 13) = false := bne_eq_false_iff_eq.mpr c13
                  clear c13
                  obtain rfl := Option.some.inj H
                  go_wp2
                  all_goals
                    go_ret
                    exact ⟨by first | rfl | (simp; done) | (simp [*]; done), by repeat (first | exact Drawn0.refl _ | apply Drawn0.step)⟩
                · rw [if_neg c13] at H
                  have c13b0 : (a0 == 13) = false := beq_eq_false_iff_ne.mpr c13
                  have c13b1 : (a0 != 13) = true := bne_iff_ne.mpr c13
                  obtain rfl := Option.some.inj H
                  go_wp2
                  all_goals
                    go_ret
                    exact ⟨by first | rfl | (simp; done) | (simp [*]; done), by repeat (first | exact Drawn0.refl _ | apply Drawn0.step)⟩
def stamp_Get.f (k : Nat) (l0 : List Int) (a1 : Int) : Option (Int × Bool) := if a1 < 0 then (none) else (if a1 > (l0.length : Int) then (none) else (if (wrap64 ((l0.length : Int) - a1)) < 10 then (none) else ((octets_Get.f k l0 a1 6).bind fun t9 => ((octets_Get.f k l0 (wrap64 (a1 + 6)) 4).bind fun t13 => (if t13.1 ≥ 1000000000 then (none) else (if t9.1 > 4000000 then (none) else ((stamp_May.f (wrap64 ((wrap64 (t9.1 * 1000000000)) + t13.1))).bind fun t18 => (if t18 = true then (some (wrap64 ((wrap64 (t9.1 * 1000000000)) + t13.1), true)) else (none)))))))))
open Go.Proofs.Ytiomlbkakiienaa.E in
set_option maxHeartbeats 60000000 in
set_option maxRecDepth 100000 in
theorem stamp_Get.calls (k : Nat) (A0 : Option Addr) (af : Nat) (l0 : List Int) (a1 r1 : Int) (r2 : Bool) (w : World) (HR0 : Kd.C (Kd.int .u8) w A0 l0.length l0) (HC0 : l0.length ≤ af) (h : stamp_Get.f k l0 a1 = some (r1, r2)) :
    Calls Try.prog 64 #[.slice A0 l0.length af, .int .i64 a1] w fun e w' => e = .returned (.tuple #[.int .i64 r1, .bool r2]) ∧ Below w.heap.size w w' := by
 have H := h
 clear h
 unfold stamp_Get.f at H
 by_cases c1 : a1 < 0
 ·rw [if_pos c1] at H; exact absurd H (by simp)
 rw [if_neg c1] at H
 by_cases c2 : a1 > (l0.length : Int)
 ·rw [if_pos c2] at H; exact absurd H (by simp)
 rw [if_neg c2] at H
 by_cases c3 : (wrap64 ((l0.length : Int) - a1)) < 10
 ·rw [if_pos c3] at H; exact absurd H (by simp)
 rw [if_neg c3] at H
 obtain ⟨t9, aB, H⟩ := Option.bind_eq_some_iff.mp H
 obtain ⟨ab, ad⟩ := t9
 (try dsimp only at H)
 obtain ⟨aJ, ap, H⟩ := Option.bind_eq_some_iff.mp H
 obtain ⟨aa, ac⟩ := aJ
 (try dsimp only at H)
 by_cases c4 : aa ≥ 1000000000
 ·rw [if_pos c4] at H; exact absurd H (by simp)
 rw [if_neg c4] at H
 by_cases c5 : ab > 4000000
 ·rw [if_pos c5] at H; exact absurd H (by simp)
 rw [if_neg c5] at H
 obtain ⟨ae, aq, H⟩ := Option.bind_eq_some_iff.mp H
 by_cases c6 : ae = true
 rotate_left
 ·rw [if_neg c6] at H; exact absurd H (by simp)
 rw [if_pos c6] at H
 simp only [Option.some.injEq, Prod.mk.injEq] at H
 obtain ⟨rfl, rfl⟩ := H
 refine calls_of_wp (fn := Try.f64) (by kernel_rfl) rfl ?_
 have hS := St.enter #[.slice A0 l0.length af, .int .i64 a1] 56 (by simp) [(0, .slice A0 l0.length af), (1, .int .i64 a1)] (by simp)
 have aC := Below.refl w.heap.size w
 refine wp_seq_k (fun K1 aD => ?_)
 refine reg_seq (I := I1_ w) (ps := [VI 0, VB false]) (by kernel_rfl) ?_ ?_ rfl hS aC ?_ ?_
 ·exact bs1
 ·exact .v (.v (.nil))
 ·refine .on rfl (fun a w hS hI hp => does_val (x_assign rfl (rfl)) rfl) ?_
  refine .on rfl (fun a w hS hI hp => does_val (x_assign rfl (rfl)) rfl) ?_
  exact .nil
 clear hS
 intro aS w3 hS aH hp
 clear hp
 refine aD _ _ ?_
 refine wp_seq_k (fun K4 aE => ?_)
 refine wp_seq_k (fun K5 aF => ?_)
 refine reg_seq (I := I2_ w w3) (ps := [VI a1, VB (decide (a1 < 0)), VB (decide (a1 < 0)), VI a1, IsV (.slice A0 l0.length af), VI (l0.length : Int), VB (decide (a1 > (l0.length : Int))), VB (decide (a1 > (l0.length : Int))), VB (decide (a1 > (l0.length : Int))), IsV (.slice A0 l0.length af), VI (l0.length : Int), VI a1, VI (wrap64 ((l0.length : Int) - a1)), VB (decide ((wrap64 ((l0.length : Int) - a1)) < 10)), VB (decide ((wrap64 ((l0.length : Int) - a1)) < 10))]) (by kernel_rfl) ?_ ?_ rfl hS ⟨aH, (bR w3)⟩ ?_ ?_
 ·exact bs2
 ·exact .v (.v (.v (.v (.v (.v (.v (.v (.v (.v (.v (.v (.v (.v (.v (.nil)))))))))))))))
 ·refine .ms 1 rfl rfl rfl ?_
  refine .on rfl (fun a w hS hI hp => does_val (x_bin rfl (hp.V 0 rfl rfl) (rfl) (b_lss _ _ _ _ _ _)) rfl) ?_
  refine .mv 1 rfl rfl rfl ?_
  refine .oy 2 12 rfl rfl ((decide_eq_false c1)) (fun a w hS hI hp => does_val (x_move rfl (hS.get 1 rfl)) rfl) ?_
  refine .oy 2 12 rfl rfl ((decide_eq_false c1)) (fun a w hS hI hp => does_val (x_move rfl (hS.get 0 rfl)) rfl) ?_
  refine .oy 2 12 rfl rfl ((decide_eq_false c1)) (fun a w hS hI hp => does_val (x_len (e := 5) rfl (by kernel_rfl) (hp.V 4 rfl rfl)) rfl) ?_
  refine .oy 2 12 rfl rfl ((decide_eq_false c1)) (fun a w hS hI hp => does_val (x_bin rfl (hp.V 3 rfl rfl) (hp.V 5 rfl rfl) (b_gtr _ _ _ _ _ _)) rfl) ?_
  refine .on rfl (fun a w hS hI hp => does_val (x_pickF rfl ((hp.V 2 rfl rfl).trans (bF (decide_eq_false c1))) (hp.V 6 rfl rfl)) rfl) ?_
  refine .mv 7 rfl rfl rfl ?_
  refine .oy 8 18 rfl rfl ((decide_eq_false c2)) (fun a w hS hI hp => does_val (x_move rfl (hS.get 0 rfl)) rfl) ?_
  refine .oy 8 18 rfl rfl ((decide_eq_false c2)) (fun a w hS hI hp => does_val (x_len (e := 5) rfl (by kernel_rfl) (hp.V 9 rfl rfl)) rfl) ?_
  refine .oy 8 18 rfl rfl ((decide_eq_false c2)) (fun a w hS hI hp => does_val (x_move rfl (hS.get 1 rfl)) rfl) ?_
  refine .oy 8 18 rfl rfl ((decide_eq_false c2)) (fun a w hS hI hp => does_val (x_bin rfl (hp.V 10 rfl rfl) (hp.V 11 rfl rfl) (b_sub _ _ _ _ _)) rfl) ?_
  refine .oy 8 18 rfl rfl ((decide_eq_false c2)) (fun a w hS hI hp => does_val (x_bin rfl (hp.V 12 rfl rfl) (rfl) (b_lss _ _ _ _ _ _)) rfl) ?_
  refine .on rfl (fun a w hS hI hp => does_val (x_pickF rfl ((hp.V 8 rfl rfl).trans (bF (decide_eq_false c2))) (hp.V 13 rfl rfl)) rfl) ?_
  exact .nil
 clear hS
 intro aT w7 hS aI hp
 have ag : sl _ 24 = .bool (decide ((wrap64 ((l0.length : Int) - a1)) < 10)) := hp 14 (by decide)
 have hS := hS.cons ag
 clear hp ag
 refine aF _ _ ?_
 refine wp_cond_false ((hS.get 0 rfl).trans (bF (decide_eq_false c3))) ?_
 refine wp_skip ?_
 refine aE _ _ ?_
 refine wp_seq_k (fun K8 aG => ?_)
 refine reg_seq (I := I2_ w w7) (ps := [IsV (.slice A0 l0.length af), VI a1, IsV (.tuple #[.int .i64 ab, .bool ad]), IsV (.tuple #[.int .i64 ab, .bool ad]), VI ab, VB ad, VI ab, VB ad]) (by kernel_rfl) ?_ ?_ rfl hS ⟨aI.1, (bR w7)⟩ ?_ ?_
 ·exact bs2
 ·exact .v (.v (.v (.v (.v (.v (.v (.v (.nil))))))))
 ·refine .ms 1 rfl rfl rfl ?_
  refine .ms 2 rfl rfl rfl ?_
  refine .on rfl (fun a w hS hI hp => does_call (by kernel_rfl) (ar3 (hp.V 0 rfl rfl) (hp.V 1 rfl rfl) (rfl)) ((octets_Get.calls k _ _ l0 a1 6 ab ad _ (Kd.C_below HR0 hI.1) HC0 aB).mono fun _ _ h => ⟨_, h.1, h.2.below, rfl⟩)) ?_
  refine .mv 2 rfl rfl rfl ?_
  iterate 2 refine .on rfl (fun a w hS hI hp => does_val (x_extract rfl (hp.V 3 rfl rfl) rfl) rfl) ?_
  refine .asg 4 rfl rfl rfl ?_
  refine .asg 5 rfl rfl rfl ?_
  exact .nil
 clear hS
 intro aK am hS ax hp
 replace hS := ((hS.nil).cons (hS.get 2 rfl)).cons (hS.get 1 rfl)
 have ak : sl _ 6 = .int .i64 ab := hp 6 (by decide)
 have hS := hS.cons ak
 clear hp ak
 refine aG _ _ ?_
 refine wp_seq_k (fun aO ar => ?_)
 refine reg_seq (I := I2_ w am) (ps := [IsV (.slice A0 l0.length af), VI a1, VI (wrap64 (a1 + 6)), IsV (.tuple #[.int .i64 aa, .bool ac]), IsV (.tuple #[.int .i64 aa, .bool ac]), VI aa, VB ac, VI aa, VB ac]) (by kernel_rfl) ?_ ?_ rfl hS ⟨ax.1, (bR am)⟩ ?_ ?_
 ·exact bs2
 ·exact .v (.v (.v (.v (.v (.v (.v (.v (.v (.nil)))))))))
 ·refine .ms 1 rfl rfl rfl ?_
  refine .ms 2 rfl rfl rfl ?_
  refine .on rfl (fun a w hS hI hp => does_val (x_bin rfl (hp.V 1 rfl rfl) (rfl) (b_add _ _ _ _ _)) rfl) ?_
  refine .on rfl (fun a w hS hI hp => does_call (by kernel_rfl) (ar3 (hp.V 0 rfl rfl) (hp.V 2 rfl rfl) (rfl)) ((octets_Get.calls k _ _ l0 (wrap64 (a1 + 6)) 4 aa ac _ (Kd.C_below HR0 hI.1) HC0 ap).mono fun _ _ h => ⟨_, h.1, h.2.below, rfl⟩)) ?_
  refine .mv 3 rfl rfl rfl ?_
  iterate 2 refine .on rfl (fun a w hS hI hp => does_val (x_extract rfl (hp.V 4 rfl rfl) rfl) rfl) ?_
  refine .asg 5 rfl rfl rfl ?_
  refine .asg 6 rfl rfl rfl ?_
  exact .nil
 clear hS
 intro aL an hS ay hp
 replace hS := (hS.nil).cons (hS.get 0 rfl)
 have al : sl _ 8 = .int .i64 aa := hp 7 (by decide)
 have hS := hS.cons al
 clear hp al
 refine ar _ _ ?_
 refine wp_seq_k (fun aP au => ?_)
 refine wp_seq_k (fun aQ av => ?_)
 refine reg_seq (I := I2_ w an) (ps := [VI aa, VB (decide (aa ≥ 1000000000)), VB (decide (aa ≥ 1000000000)), VI ab, VB (decide (ab > 4000000)), VB (decide (ab > 4000000)), VB (decide (ab > 4000000)), VI ab, VI (wrap64 (ab * 1000000000)), VI aa, VI (wrap64 ((wrap64 (ab * 1000000000)) + aa)), VB ae, VB (!ae), VB (!ae)]) (by kernel_rfl) ?_ ?_ rfl hS ⟨ay.1, (bR an)⟩ ?_ ?_
 ·exact bs2
 ·exact .v (.v (.v (.v (.v (.v (.v (.v (.v (.v (.v (.v (.v (.v (.nil))))))))))))))
 ·refine .ms 0 rfl rfl rfl ?_
  refine .on rfl (fun a w hS hI hp => does_val (x_bin rfl (hp.V 0 rfl rfl) (rfl) (b_geq _ _ _ _ _ _)) rfl) ?_
  refine .mv 1 rfl rfl rfl ?_
  refine .oy 2 40 rfl rfl ((decide_eq_false c4)) (fun a w hS hI hp => does_val (x_move rfl (hS.get 1 rfl)) rfl) ?_
  refine .oy 2 40 rfl rfl ((decide_eq_false c4)) (fun a w hS hI hp => does_val (x_bin rfl (hp.V 3 rfl rfl) (rfl) (b_gtr _ _ _ _ _ _)) rfl) ?_
  refine .on rfl (fun a w hS hI hp => does_val (x_pickF rfl ((hp.V 2 rfl rfl).trans (bF (decide_eq_false c4))) (hp.V 4 rfl rfl)) rfl) ?_
  refine .mv 5 rfl rfl rfl ?_
  refine .oy 6 44 rfl rfl ((decide_eq_false c5)) (fun a w hS hI hp => does_val (x_move rfl (hS.get 1 rfl)) rfl) ?_
  refine .oy 6 44 rfl rfl ((decide_eq_false c5)) (fun a w hS hI hp => does_val (x_bin rfl (hp.V 7 rfl rfl) (rfl) (b_mul _ _ _ _ _)) rfl) ?_
  refine .oy 6 44 rfl rfl ((decide_eq_false c5)) (fun a w hS hI hp => does_val (x_move rfl (hS.get 0 rfl)) rfl) ?_
  refine .oy 6 44 rfl rfl ((decide_eq_false c5)) (fun a w hS hI hp => does_val (x_bin rfl (hp.V 8 rfl rfl) (hp.V 9 rfl rfl) (b_add _ _ _ _ _)) rfl) ?_
  refine .oy 6 44 rfl rfl ((decide_eq_false c5)) (fun a w hS hI hp => does_call (by kernel_rfl) (ar1 (hp.V 10 rfl rfl)) ((stamp_May.calls (wrap64 ((wrap64 (ab * 1000000000)) + aa)) ae _  aq).mono fun _ _ h => ⟨_, h.1, h.2.below, rfl⟩)) ?_
  refine .oy 6 44 rfl rfl ((decide_eq_false c5)) (fun a w hS hI hp => does_val (x_not rfl (hp.V 11 rfl rfl)) rfl) ?_
  refine .on rfl (fun a w hS hI hp => does_val (x_pickF rfl ((hp.V 6 rfl rfl).trans (bF (decide_eq_false c5))) (hp.V 12 rfl rfl)) rfl) ?_
  exact .nil
 clear hS
 intro aM ao hS az hp
 have ah : sl _ 51 = .bool (!ae) := hp 13 (by decide)
 have hS := hS.cons ah
 clear hp ah
 refine av _ _ ?_
 refine wp_cond_false ((hS.get 0 rfl).trans (bF (congrArg (!·) c6))) ?_
 refine wp_skip ?_
 refine au _ _ ?_
 refine wp_seq_k (fun aR aw => ?_)
 refine reg_seq (I := I2_ w ao) (ps := [VI ab, VI (wrap64 (ab * 1000000000)), VI aa, VI (wrap64 ((wrap64 (ab * 1000000000)) + aa)), VI (wrap64 ((wrap64 (ab * 1000000000)) + aa)), VB true]) (by kernel_rfl) ?_ ?_ rfl hS ⟨az.1, (bR ao)⟩ ?_ ?_
 ·exact bs2
 ·exact .v (.v (.v (.v (.v (.v (.nil))))))
 ·refine .ms 2 rfl rfl rfl ?_
  refine .on rfl (fun a w hS hI hp => does_val (x_bin rfl (hp.V 0 rfl rfl) (rfl) (b_mul _ _ _ _ _)) rfl) ?_
  refine .ms 1 rfl rfl rfl ?_
  refine .on rfl (fun a w hS hI hp => does_val (x_bin rfl (hp.V 1 rfl rfl) (hp.V 2 rfl rfl) (b_add _ _ _ _ _)) rfl) ?_
  refine .asg 3 rfl rfl rfl ?_
  refine .on rfl (fun a w hS hI hp => does_val (x_assign rfl (rfl)) rfl) ?_
  exact .nil
 clear hS
 intro aN aU hS aA hp
 replace hS := hS.nil
 have ai : sl _ 4 = .int .i64 (wrap64 ((wrap64 (ab * 1000000000)) + aa)) := hp 4 (by decide)
 have aj : sl _ 5 = .bool true := hp 5 (by decide)
 have hS := hS.cons ai
 have hS := hS.cons aj
 clear hp ai aj
 refine aw _ _ ?_
 refine wp_ret ?_
 (try simp only [Exit.then, Exit.inBlock, Exit.jump, Exit.noGoto])
 exact bodyPost_ret (v := .tuple #[.int .i64 (wrap64 ((wrap64 (ab * 1000000000)) + aa)), .bool true]) (results_list (rs := [.tmp 4, .tmp 5]) rfl (by simp) (Vals.at (hS.get 1 rfl) (Vals.at (hS.get 0 rfl) .nil))) hS.nodef ⟨rfl, aA.1⟩
end Go.Proofs.Ytiomlbkakiienaa.P
