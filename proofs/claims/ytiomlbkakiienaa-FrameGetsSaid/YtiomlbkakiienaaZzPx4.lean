/- Functions and loops of the given program as Lean functions, and that the code comes to what they say: written by this session's own program; Lean checks it. -/
import Derived.Test.YtiomlbkakiienaaZzPx0
import Derived.Test.YtiomlbkakiienaaZzPx2
import Derived.Test.YtiomlbkakiienaaZzPx3
namespace Go.Proofs.Ytiomlbkakiienaa.P
open Go.RowKit Go.Proofs.YtiomlbkakiienaaW.PrintWords Go.Proofs.YtiomlbkakiienaaW.PrintLast Go.Proofs.YtiomlbkakiienaaW.PrintMore
attribute [local go_sem] max2_int min2_int max_two min_two max_three min_three max_four min_four   -- for this text's walks alone
set_option linter.unusedVariables false
set_option linter.unusedSimpArgs false
def octets_Signed.f (k : Nat) (l0 : List Int) (a1 : Int) (a2 : Int) : Option (Int × Bool) := if a2 < 1 then (some (0, false)) else (if a2 > 8 then (some (0, false)) else ((octets_none.f l0 a1 a2).bind fun t142 => (if t142 = true then (some (0, false)) else (if 0 ≤ a1 then (if a1 ≤ (wrap64 (a1 + a2)) then (if (wrap64 (a1 + a2)) ≤ (l0.length : Int) then ((octets_read.f k ((l0.take ((wrap64 (a1 + a2)) : Int).toNat).drop (a1 : Int).toNat)).bind fun t144 => (if 0 ≤ (wrap64 (64 - (wrap64 (8 * a2)))) then (some (shr .i64 (wrap64 (shl .u64 t144 (wrap64 (64 - (wrap64 (8 * a2)))))) (wrap64 (64 - (wrap64 (8 * a2)))), true)) else (none))) else (none)) else (none)) else (none)))))
set_option maxHeartbeats 8000000 in
set_option maxRecDepth 100000 in
theorem octets_Signed.calls (k : Nat) (A0 : Option Addr) (c0 : Nat) (l0 : List Int) (a1 : Int) (a2 : Int) (r1 : Int) (r2 : Bool) (w : World) (hr0 : Kd.C (Kd.int .u8) w A0 l0.length l0) (hc0 : l0.length ≤ c0) (h : octets_Signed.f k l0 a1 a2 = some (r1, r2)) :
    Calls Try.prog 61 #[.slice A0 l0.length c0, .int .i64 a1, .int .i64 a2] w fun e w' => e = .returned (.tuple #[.int .i64 r1, .bool r2]) ∧ Drawn0 w w' := by
  have HR0 := Aside0.mk hr0
  have HC0 := Aside0.mk hc0
  clear hr0 hc0
  have H : (if a2 < 1 then (some (0, false)) else (if a2 > 8 then (some (0, false)) else ((octets_none.f l0 a1 a2).bind fun t142 => (if t142 = true then (some (0, false)) else (if 0 ≤ a1 then (if a1 ≤ (wrap64 (a1 + a2)) then (if (wrap64 (a1 + a2)) ≤ (l0.length : Int) then ((octets_read.f k ((l0.take ((wrap64 (a1 + a2)) : Int).toNat).drop (a1 : Int).toNat)).bind fun t144 => (if 0 ≤ (wrap64 (64 - (wrap64 (8 * a2)))) then (some (shr .i64 (wrap64 (shl .u64 t144 (wrap64 (64 - (wrap64 (8 * a2)))))) (wrap64 (64 - (wrap64 (8 * a2)))), true)) else (none))) else (none)) else (none)) else (none)))))) = some (r1, r2) := h
  clear h
  by_cases c4 : a2 < 1
  · rw [if_pos c4] at H
    have c4b0 : decide (a2 < 1) = true := decide_eq_true c4
    clear c4
    simp only [Option.some.injEq, Prod.mk.injEq] at H
    obtain ⟨rfl, rfl⟩ := H
    go_enter Try.func61, Try.ntmps61
    go_wp2
    go_ret2
    exact ⟨by first | rfl | (simp; done) | (simp [*]; done), by repeat (first | exact Drawn0.refl _ | apply Drawn0.step)⟩
  · rw [if_neg c4] at H
    have c4b0 : decide (a2 < 1) = false := decide_eq_false c4
    clear c4
    by_cases c5 : a2 > 8
    · rw [if_pos c5] at H
      have c5b0 : decide (8 < a2) = true := decide_eq_true c5
      clear c5
      simp only [Option.some.injEq, Prod.mk.injEq] at H
      obtain ⟨rfl, rfl⟩ := H
      go_enter Try.func61, Try.ntmps61
      go_wp2
      go_ret2
      exact ⟨by first | rfl | (simp; done) | (simp [*]; done), by repeat (first | exact Drawn0.refl _ | apply Drawn0.step)⟩
    · rw [if_neg c5] at H
      have c5b0 : decide (8 < a2) = false := decide_eq_false c5
      clear c5
      replace H := Option.bind_eq_some_iff.mp H
      obtain ⟨t142, A60, H⟩ := H
      replace H : (if t142 = true then (some (0, false)) else (if 0 ≤ a1 then (if a1 ≤ (wrap64 (a1 + a2)) then (if (wrap64 (a1 + a2)) ≤ (l0.length : Int) then ((octets_read.f k ((l0.take ((wrap64 (a1 + a2)) : Int).toNat).drop (a1 : Int).toNat)).bind fun t144 => (if 0 ≤ (wrap64 (64 - (wrap64 (8 * a2)))) then (some (shr .i64 (wrap64 (shl .u64 t144 (wrap64 (64 - (wrap64 (8 * a2)))))) (wrap64 (64 - (wrap64 (8 * a2)))), true)) else (none))) else (none)) else (none)) else (none))) = some (r1, r2) := H
      have A6 := Aside0.mk A60
      clear A60
      by_cases c7 : t142 = true
      · subst c7
        have H1 : (some (0, false)) = some (r1, r2) := by rw [if_pos rfl] at H; exact H
        clear H
        have H := H1
        clear H1
        simp only [Option.some.injEq, Prod.mk.injEq] at H
        obtain ⟨rfl, rfl⟩ := H
        go_enter Try.func61, Try.ntmps61
        go_wp2_with (first | (go_at_call 80; (with_reducible refine (octets_none.calls _ _ l0 a1 a2 true _ ?side1 ?side2 A6.out).mono ?_); (case side1 => repeat (first | exact HR0.out | (with_reducible refine Kd.C_alloc ?_ _) | (with_reducible refine Kd.C_drewN ?_ _) | (with_reducible refine Kd.C_drew ?_))); (case side2 => exact HC0.out); rintro e w' ⟨rfl, ⟨nd, rfl⟩⟩))
        go_ret2
        exact ⟨by first | rfl | (simp; done) | (simp [*]; done), by repeat (first | exact Drawn0.refl _ | apply Drawn0.step)⟩
      · replace c7 := Bool.eq_false_iff.mpr c7
        subst c7
        have H1 : (if 0 ≤ a1 then (if a1 ≤ (wrap64 (a1 + a2)) then (if (wrap64 (a1 + a2)) ≤ (l0.length : Int) then ((octets_read.f k ((l0.take ((wrap64 (a1 + a2)) : Int).toNat).drop (a1 : Int).toNat)).bind fun t144 => (if 0 ≤ (wrap64 (64 - (wrap64 (8 * a2)))) then (some (shr .i64 (wrap64 (shl .u64 t144 (wrap64 (64 - (wrap64 (8 * a2)))))) (wrap64 (64 - (wrap64 (8 * a2)))), true)) else (none))) else (none)) else (none)) else (none)) = some (r1, r2) := by rw [if_neg (show ¬ (false = true) by decide)] at H; exact H
        clear H
        have H := H1
        clear H1
        by_cases c8 : 0 ≤ a1
        · rw [if_pos c8] at H
          have c8b0 := eq_true c8
          have c8b1 : decide (0 ≤ a1) = true := decide_eq_true c8
          clear c8
          by_cases c9 : a1 ≤ (wrap64 (a1 + a2))
          · rw [if_pos c9] at H
            have c9b0 := eq_true c9
            have c9b1 : decide (a1 ≤ (wrap64 (a1 + a2))) = true := decide_eq_true c9
            by_cases c10 : (wrap64 (a1 + a2)) ≤ (l0.length : Int)
            · rw [if_pos c10] at H
              have c10b0 := eq_true c10
              have c10b1 : decide ((wrap64 (a1 + a2)) ≤ (l0.length : Int)) = true := decide_eq_true c10
              replace H := Option.bind_eq_some_iff.mp H
              obtain ⟨t144, A110, H⟩ := H
              replace H : (if 0 ≤ (wrap64 (64 - (wrap64 (8 * a2)))) then (some (shr .i64 (wrap64 (shl .u64 t144 (wrap64 (64 - (wrap64 (8 * a2)))))) (wrap64 (64 - (wrap64 (8 * a2)))), true)) else (none)) = some (r1, r2) := H
              have A11 := Aside0.mk A110
              clear A110
              obtain ⟨ji12, hji12⟩ : ∃ j_ : Int, (wrap64 (64 - (wrap64 (8 * a2)))) = j_ := ⟨_, rfl⟩
              replace H : (if 0 ≤ (ji12) then (some (shr .i64 (wrap64 (shl .u64 t144 (ji12))) (ji12), true)) else (none)) = some (r1, r2) := by first | (rw [hji12] at H; exact H) | (simp only [hji12] at H ⊢; exact H)
              (try rw [hji12] at A6)
              (try rw [hji12] at A11)
              have hji12w : (IntKind.i64.wrap (64 - (wrap64 (8 * a2)))) = ji12 := (i64_w _).trans hji12
              by_cases c13 : 0 ≤ (ji12)
              · rw [if_pos c13] at H
                have c13b0 := eq_true c13
                have c13b1 : decide (0 ≤ (ji12)) = true := decide_eq_true c13
                clear c13
                obtain ⟨ji14, hji14⟩ : ∃ j_ : Int, (shl .u64 t144 (ji12)) = j_ := ⟨_, rfl⟩
                replace H : (some (shr .i64 (wrap64 (ji14)) (ji12), true)) = some (r1, r2) := by first | (rw [hji14] at H; exact H) | (simp only [hji14] at H ⊢; exact H)
                (try rw [hji14] at A6)
                (try rw [hji14] at A11)
                have hji14_ : (IntKind.u64.wrap (t144 * 2 ^ min (ji12).toNat 64)) = ji14 := hji14
                have hji14z : (ji12) ≤ 64 → (IntKind.u64.wrap (t144 * 2 ^ (ji12).toNat)) = ji14 := shl_small hji14
                have c15b0 := eq_true (of_decide_eq_true (by first | (with_reducible assumption) | assumption) : 0 ≤ (ji12))
                obtain ⟨ji16, hji16⟩ : ∃ j_ : Int, (shr .i64 (wrap64 (ji14)) (ji12)) = j_ := ⟨_, rfl⟩
                replace H : (some (ji16, true)) = some (r1, r2) := by first | (rw [hji16] at H; exact H) | (simp only [hji16] at H ⊢; exact H)
                (try rw [hji16] at A6)
                (try rw [hji16] at A11)
                have hji16_ : ((wrap64 (ji14)) / 2 ^ min (ji12).toNat 64) = ji16 := hji16
                have hji16z : (ji12) ≤ 64 → ((wrap64 (ji14)) / 2 ^ (ji12).toNat) = ji16 := shr_small hji16
                simp only [Option.some.injEq, Prod.mk.injEq] at H
                obtain ⟨rfl, rfl⟩ := H
                go_enter Try.func61, Try.ntmps61
                go_wp2_with (first | (go_at_call 80; (with_reducible refine (octets_none.calls _ _ l0 a1 a2 false _ ?side1 ?side2 A6.out).mono ?_); (case side1 => repeat (first | exact HR0.out | (with_reducible refine Kd.C_alloc ?_ _) | (with_reducible refine Kd.C_drewN ?_ _) | (with_reducible refine Kd.C_drew ?_))); (case side2 => exact HC0.out); rintro e w' ⟨rfl, ⟨nd, rfl⟩⟩; obtain ⟨i017, hi017, _, hsz17, _⟩ := info_parts info5; obtain ⟨A17, hcut17, hA17, hC17⟩ := print_mid_of (P := Try.prog) (Value.int .u8) 0 36 5 .i64 .i64 Try.underlying36 hi017 hsz17 A0 c0 l0 a1 (wrap64 (a1 + a2)) (of_decide_eq_true (by first | (with_reducible assumption) | assumption)) (by first | omega | exact of_decide_eq_true (by first | (with_reducible assumption) | assumption)) (of_decide_eq_true (by first | (with_reducible assumption) | assumption)) HC0.out; have HR143 := Aside0.mk (Kd.C_of_reads (h1 := fun _ => rfl) (hA17 _ (Kd.reads_of_C HR0.out))); have HC143 := Aside0.mk hC17; clear hA17 hC17 hi017 hsz17) | ((with_reducible refine gate_callee (f := 81) rfl ?_); refine goesL_ (some 30) rfl rfl Try.func81 (by kernel_rfl) rfl #[.slice A17 ((l0.take ((wrap64 (a1 + a2)) : Int).toNat).drop (a1 : Int).toNat).length (c0 - a1.toNat)] rfl (by (try simp only [List.map_toArray, List.map_cons, List.map_nil]); first | done | (rw [show ((l0.take ((wrap64 (a1 + a2)) : Int).toNat).drop (a1 : Int).toNat).length = ((wrap64 (a1 + a2)).toNat - a1.toNat) from (by rw [List.length_drop, List.length_take]; have h_ : ((wrap64 (a1 + a2)) : Int) ≤ (l0.length : Int) := of_decide_eq_true (by first | (with_reducible assumption) | assumption); omega)] <;> rfl) | rfl | (simp only [List.length_drop, List.length_take]; rfl)) ?_; (with_reducible refine (octets_read.calls k _ _ ((l0.take ((wrap64 (a1 + a2)) : Int).toNat).drop (a1 : Int).toNat) t144 _ ?side1 ?side2 A11.out).mono ?_); (case side1 => repeat (first | exact HR143.out | (with_reducible refine Kd.C_alloc ?_ _) | (with_reducible refine Kd.C_drewN ?_ _) | (with_reducible refine Kd.C_drew ?_))); (case side2 => exact HC143.out); rintro e w' ⟨rfl, ⟨nd, rfl⟩⟩; refine ⟨_, rfl, ?_⟩))
                go_ret2
                exact ⟨by first | rfl | (simp; done) | (simp only [← hji12, ← hji14, ← hji16] <;> (first | rfl | simp)) | (simp [*]; done), by repeat (first | exact Drawn0.refl _ | apply Drawn0.step)⟩
              · rw [if_neg c13] at H
                exact absurd H (by simp)
            · rw [if_neg c10] at H
              exact absurd H (by simp)
          · rw [if_neg c9] at H
            exact absurd H (by simp)
        · rw [if_neg c8] at H
          exact absurd H (by simp)
def octets_GetId.f (k : Nat) (l0 : List Int) (a1 : Int) : Option (Int × Bool) := (octets_Signed.f k l0 a1 8).bind fun bt145 => (some (IntKind.u64.wrap (bt145.1), bt145.2))
set_option maxHeartbeats 8000000 in
set_option maxRecDepth 100000 in
theorem octets_GetId.calls (k : Nat) (A0 : Option Addr) (c0 : Nat) (l0 : List Int) (a1 : Int) (r1 : Int) (r2 : Bool) (w : World) (hr0 : Kd.C (Kd.int .u8) w A0 l0.length l0) (hc0 : l0.length ≤ c0) (h : octets_GetId.f k l0 a1 = some (r1, r2)) :
    Calls Try.prog 66 #[.slice A0 l0.length c0, .int .i64 a1] w fun e w' => e = .returned (.tuple #[.int .u64 r1, .bool r2]) ∧ Drawn0 w w' := by
  have HR0 := Aside0.mk hr0
  have HC0 := Aside0.mk hc0
  clear hr0 hc0
  have H : ((octets_Signed.f k l0 a1 8).bind fun bt145 => (some (IntKind.u64.wrap (bt145.1), bt145.2))) = some (r1, r2) := h
  clear h
  replace H := Option.bind_eq_some_iff.mp H
  obtain ⟨⟨t145, t146⟩, A30, H⟩ := H
  replace H : (some (IntKind.u64.wrap (t145), t146)) = some (r1, r2) := H
  have A3 := Aside0.mk A30
  clear A30
  simp only [Option.some.injEq, Prod.mk.injEq] at H
  obtain ⟨rfl, rfl⟩ := H
  go_enter Try.func66, Try.ntmps66
  go_wp2_with (first | ((with_reducible refine gate_callee (f := 61) rfl ?_); refine goesL_ (some 11) rfl rfl Try.func61 (by kernel_rfl) rfl #[.slice A0 l0.length c0, .int .i64 a1, .int .i64 8] rfl (by (try simp only [List.map_toArray, List.map_cons, List.map_nil]); first | done | rfl | (simp only [List.length_drop, List.length_take]; rfl)) ?_; (with_reducible refine (octets_Signed.calls k _ _ l0 a1 8 t145 t146 _ ?side1 ?side2 A3.out).mono ?_); (case side1 => repeat (first | exact HR0.out | (with_reducible refine Kd.C_alloc ?_ _) | (with_reducible refine Kd.C_drewN ?_ _) | (with_reducible refine Kd.C_drew ?_))); (case side2 => exact HC0.out); rintro e w' ⟨rfl, ⟨nd, rfl⟩⟩; refine ⟨_, rfl, ?_⟩))
  go_ret2
  exact ⟨by first | rfl | (simp; done) | (simp [*]; done), by repeat (first | exact Drawn0.refl _ | apply Drawn0.step)⟩
def ident_Get.j0 : Nat → List Int → Int → Bool → Option (Int × Int × Bool)
  | 0, _, _, _ => none
  | k + 1, x0, x1, x24 => if x24 = true then (some (0, 0, false)) else ((octets_GetId.f k x0 x1).bind fun bt148 => ((octets_Get.f k x0 (wrap64 (x1 + 8)) 2).bind fun bt150 => (some (bt148.1, bt150.1, true))))
def ident_Get.f (k : Nat) (l0 : List Int) (a1 : Int) : Option (Int × Int × Bool) := if a1 < 0 then (ident_Get.j0 k l0 a1 true) else (if a1 > (l0.length : Int) then (ident_Get.j0 k l0 a1 true) else (ident_Get.j0 k l0 a1 (decide ((wrap64 ((l0.length : Int) - a1)) < 10))))
set_option maxHeartbeats 8000000 in
set_option maxRecDepth 100000 in
theorem ident_Get.calls (k : Nat) (A0 : Option Addr) (c0 : Nat) (l0 : List Int) (a1 : Int) (r1 : Int) (r2 : Int) (r3 : Bool) (w : World) (hr0 : Kd.C (Kd.int .u8) w A0 l0.length l0) (hc0 : l0.length ≤ c0) (h : ident_Get.f k l0 a1 = some (r1, r2, r3)) :
    Calls Try.prog 62 #[.slice A0 l0.length c0, .int .i64 a1] w fun e w' => e = .returned (.tuple #[.agg #[.int .u64 r1, .int .i64 r2], .bool r3]) ∧ Below w.heap.size w w' := by
  have hu24 := Try.underlying24
  have HR0 := Aside0.mk hr0
  have HC0 := Aside0.mk hc0
  clear hr0 hc0
  have HB := Aside0.mk (Below.refl w.heap.size w)
  have H : (if a1 < 0 then (ident_Get.j0 k l0 a1 true) else (if a1 > (l0.length : Int) then (ident_Get.j0 k l0 a1 true) else (ident_Get.j0 k l0 a1 (decide ((wrap64 ((l0.length : Int) - a1)) < 10))))) = some (r1, r2, r3) := h
  clear h
  have HC3 := Aside0.mk H
  clear H
  go_enter Try.func62, Try.ntmps62
  go_upto_region 1 with (first | ((with_reducible refine gate_dst (N := 4) rfl ?_); (try (refine gate_guard (by rfl) ?_; dsimp only)); refine box_event ?hg (N := 4) ?hd (cs := #[.int .u64 0, .int .i64 0]) (t := 24) ?hr ?_; (case hd => rfl); (case hg => rfl); (case hr => first | (go_simp; done) | (go_simp; rfl)); intro gb147 hg w4 hbox hb; have n0_ := Aside0.mk (below_step (by repeat (first | (with_reducible first | exact HB.out | apply below_alloc | apply pw_below_drewN | apply below_drew1) | exact HB.out)) hb); have n1_ := Aside0.mk (hbox); have n2_ := Aside0.mk ((by rw [hg]; exact (below_size (by repeat (first | (with_reducible first | exact HB.out | apply below_alloc | apply pw_below_drewN | apply below_drew1) | exact HB.out))) : w.heap.size ≤ gb147)); have n3_ := Aside0.mk ((by rw [hg]; exact (below_size (by repeat (first | (with_reducible first | exact HB.out | apply below_alloc | apply pw_below_drewN | apply below_drew1) | exact HB.out))) : w.heap.size ≤ gb147)); clear HB; have HB := n0_; have BK147 := n1_; have GW147 := n2_; have GE147 := n3_; clear n0_ n1_ n2_ n3_; clear hb hbox hg))
  (try simp only [Act.put, List.setIfInBounds_toArray, List.set_cons_zero, List.set_cons_succ])
  go_cut [24] (fun v24 wc => ∃ (kq : Nat) (x24_2 : Bool), v24 = .bool x24_2 ∧ Aside0 (ident_Get.j0 kq l0 a1 x24_2 = some (r1, r2, r3)) ∧ Aside0 (kq ≤ k) ∧ Aside0 (wc.heap[gb147]? = some (.cells #[.int .u64 0, .int .i64 0] 24 (0, 0))) ∧ Aside0 (Below w.heap.size w wc))
  case first =>
    have H := HC3.out
    clear HC3
    by_cases c5 : a1 < 0
    · rw [if_pos c5] at H
      have c5b0 : decide (a1 < 0) = true := decide_eq_true c5
      clear c5
      (first | rw [c5b0] | (simp only [i64_w, i32_w]; rw [c5b0]) | skip)
      have H' := Aside0.mk H
      clear H
      go_wp2
      go_meet
      case rel => exact ⟨_, (true), (by first | rfl | (simp; done) | (simp [*]; done)), H', ⟨by first | omega | exact Nat.le_refl _⟩, ⟨by (with_reducible repeat (first | refine blk_drewN ?_ _ | refine blk_drew ?_ | refine blk_alloc ?_ _)); exact BK147.out⟩, ⟨by repeat (first | (with_reducible first | exact HB.out | apply below_alloc | apply pw_below_drewN | apply below_drew1 | refine below_set ?_ GE147.out) | exact HB.out)⟩⟩
    · rw [if_neg c5] at H
      have c5b0 : decide (a1 < 0) = false := decide_eq_false c5
      clear c5
      (first | rw [c5b0] | (simp only [i64_w, i32_w]; rw [c5b0]) | skip)
      by_cases c6 : a1 > (l0.length : Int)
      · rw [if_pos c6] at H
        have c6b0 : decide ((l0.length : Int) < a1) = true := decide_eq_true c6
        clear c6
        have H' := Aside0.mk H
        clear H
        go_wp2
        go_meet
        case rel => exact ⟨_, (true), (by first | rfl | (simp; done) | (simp [*]; done)), H', ⟨by first | omega | exact Nat.le_refl _⟩, ⟨by (with_reducible repeat (first | refine blk_drewN ?_ _ | refine blk_drew ?_ | refine blk_alloc ?_ _)); exact BK147.out⟩, ⟨by repeat (first | (with_reducible first | exact HB.out | apply below_alloc | apply pw_below_drewN | apply below_drew1 | refine below_set ?_ GE147.out) | exact HB.out)⟩⟩
      · rw [if_neg c6] at H
        have c6b0 : decide ((l0.length : Int) < a1) = false := decide_eq_false c6
        clear c6
        have H' := Aside0.mk H
        clear H
        go_wp2
        go_meet
        case rel => exact ⟨_, (decide ((wrap64 ((l0.length : Int) - a1)) < 10)), (by first | rfl | (simp; done) | (simp [*]; done)), H', ⟨by first | omega | exact Nat.le_refl _⟩, ⟨by (with_reducible repeat (first | refine blk_drewN ?_ _ | refine blk_drew ?_ | refine blk_alloc ?_ _)); exact BK147.out⟩, ⟨by repeat (first | (with_reducible first | exact HB.out | apply below_alloc | apply pw_below_drewN | apply below_drew1 | refine below_set ?_ GE147.out) | exact HB.out)⟩⟩
  case rest =>
    clear HC3
    try clear p2
    try clear c5
    try clear c5b0
    try clear c6
    try clear c6b0
    try clear p6
    obtain ⟨kq, x24_2, rfl, HA, HJ2, BK147, HB⟩ := hcut
    cases kq with
    | zero => exact absurd HA.out (by simp [ident_Get.j0])
    | succ kj2 =>
      have H := HA.out
      clear HA
      simp only [ident_Get.j0] at H
      by_cases c7 : x24_2 = true
      · subst c7
        have H1 : (some (0, 0, false)) = some (r1, r2, r3) := by rw [if_pos rfl] at H; exact H
        clear H
        have H := H1
        clear H1
        simp only [Option.some.injEq, Prod.mk.injEq] at H
        obtain ⟨rfl, rfl, rfl⟩ := H
        have hcz8_0 : wc.cell? ⟨gb147, 0, none⟩ = some (.int .u64 0) := (blk_cell BK147.out 0).trans rfl
        have hcz8_1 : wc.cell? ⟨gb147, 1, none⟩ = some (.int .i64 0) := (blk_cell BK147.out 1).trans rfl
        have hfz8_0 := blk_frozen BK147.out 0
        have hfz8_1 := blk_frozen BK147.out 1
        go_wp2
        refine bodyPost_ret (results_ct rfl _ _ gb147 24 #[.int .u64 0, .int .i64 0] (0, 0) _ rfl (by (with_reducible repeat (first | refine blk_drewN ?_ _ | refine blk_drew ?_ | refine blk_alloc ?_ _)); refine blk_put (cs := #[.int .u64 0, .int .i64 0]) ?_ 1 _ rfl; (with_reducible repeat (first | refine blk_drewN ?_ _ | refine blk_drew ?_ | refine blk_alloc ?_ _)); refine blk_put (cs := #[.int .u64 0, .int .i64 0]) ?_ 0 _ rfl; (with_reducible repeat (first | refine blk_drewN ?_ _ | refine blk_drew ?_ | refine blk_alloc ?_ _)); exact BK147.out) Try.underlying24 rfl (by kernel_rfl)) rfl ?_
        exact ⟨by first | rfl | (simp [errW_none, errW_some] <;> rfl) | (simp [*, errW_none, errW_some] <;> rfl), by repeat (first | (with_reducible first | exact HB.out | apply below_alloc | apply pw_below_drewN | apply below_drew1 | refine below_set ?_ GE147.out) | exact HB.out)⟩
      · replace c7 := Bool.eq_false_iff.mpr c7
        subst c7
        have H1 : ((octets_GetId.f kj2 l0 a1).bind fun bt148 => ((octets_Get.f kj2 l0 (wrap64 (a1 + 8)) 2).bind fun bt150 => (some (bt148.1, bt150.1, true)))) = some (r1, r2, r3) := by rw [if_neg (show ¬ (false = true) by decide)] at H; exact H
        clear H
        have H := H1
        clear H1
        replace H := Option.bind_eq_some_iff.mp H
        obtain ⟨⟨t148, t149⟩, A90, H⟩ := H
        replace H : ((octets_Get.f kj2 l0 (wrap64 (a1 + 8)) 2).bind fun bt150 => (some (t148, bt150.1, true))) = some (r1, r2, r3) := H
        have A9 := Aside0.mk A90
        clear A90
        replace H := Option.bind_eq_some_iff.mp H
        obtain ⟨⟨t150, t151⟩, A100, H⟩ := H
        replace H : (some (t148, t150, true)) = some (r1, r2, r3) := H
        have A10 := Aside0.mk A100
        clear A100
        simp only [Option.some.injEq, Prod.mk.injEq] at H
        obtain ⟨rfl, rfl, rfl⟩ := H
        go_wp2_with (first | ((with_reducible refine gate_callee (f := 66) rfl ?_); refine goesL_ (some 29) rfl rfl Try.func66 (by kernel_rfl) rfl #[.slice A0 l0.length c0, .int .i64 a1] rfl (by (try simp only [List.map_toArray, List.map_cons, List.map_nil]); first | done | rfl | (simp only [List.length_drop, List.length_take]; rfl)) ?_; (with_reducible refine (octets_GetId.calls kj2 _ _ l0 a1 t148 t149 _ ?side1 ?side2 A9.out).mono ?_); (case side1 => repeat (first | exact (Kd.C_below HR0.out HB.out) | (with_reducible refine Kd.C_alloc ?_ _) | (with_reducible refine Kd.C_drewN ?_ _) | (with_reducible refine Kd.C_drew ?_))); (case side2 => exact HC0.out); rintro e w' ⟨rfl, ⟨nd, rfl⟩⟩; refine ⟨_, rfl, ?_⟩; (try (rw [drewN_self wc]; generalize hq_ : World.drewN wc _ = wc; have n0_ : Aside0 (wc.heap[gb147]? = some (.cells #[.int .u64 0, .int .i64 0] 24 (0, 0))) := ⟨by rw [← hq_]; exact (by (with_reducible repeat (first | refine blk_drewN ?_ _ | refine blk_drew ?_ | refine blk_alloc ?_ _)); exact BK147.out)⟩; have n1_ : Aside0 (Below w.heap.size w wc) := ⟨by rw [← hq_]; exact (by repeat (first | (with_reducible first | exact HB.out | apply below_alloc | apply pw_below_drewN | apply below_drew1 | refine below_set ?_ GE147.out) | exact HB.out))⟩; clear BK147 HB hq_; have BK147 := n0_; have HB := n1_; clear n0_ n1_))) | ((with_reducible refine gate_callee (f := 59) rfl ?_); refine goesL_ (some 36) rfl rfl Try.func59 (by kernel_rfl) rfl #[.slice A0 l0.length c0, .int .i64 (wrap64 (a1 + 8)), .int .i64 2] rfl (by (try simp only [List.map_toArray, List.map_cons, List.map_nil]); first | done | rfl | (simp only [List.length_drop, List.length_take]; rfl)) ?_; (with_reducible refine (octets_Get.calls kj2 _ _ l0 (wrap64 (a1 + 8)) 2 t150 t151 _ ?side1 ?side2 A10.out).mono ?_); (case side1 => repeat (first | exact (Kd.C_below HR0.out HB.out) | (with_reducible refine Kd.C_alloc ?_ _) | (with_reducible refine Kd.C_drewN ?_ _) | (with_reducible refine Kd.C_drew ?_))); (case side2 => exact HC0.out); rintro e w' ⟨rfl, ⟨nd, rfl⟩⟩; refine ⟨_, rfl, ?_⟩; (try (rw [drewN_self wc]; generalize hq_ : World.drewN wc _ = wc; have n0_ : Aside0 (wc.heap[gb147]? = some (.cells #[.int .u64 0, .int .i64 0] 24 (0, 0))) := ⟨by rw [← hq_]; exact (by (with_reducible repeat (first | refine blk_drewN ?_ _ | refine blk_drew ?_ | refine blk_alloc ?_ _)); exact BK147.out)⟩; have n1_ : Aside0 (Below w.heap.size w wc) := ⟨by rw [← hq_]; exact (by repeat (first | (with_reducible first | exact HB.out | apply below_alloc | apply pw_below_drewN | apply below_drew1 | refine below_set ?_ GE147.out) | exact HB.out))⟩; clear BK147 HB hq_; have BK147 := n0_; have HB := n1_; clear n0_ n1_)); have hcz11_0 : wc.cell? ⟨gb147, 0, none⟩ = some (.int .u64 0) := (blk_cell BK147.out 0).trans rfl; have hcz11_1 : wc.cell? ⟨gb147, 1, none⟩ = some (.int .i64 0) := (blk_cell BK147.out 1).trans rfl; have hfz11_0 := blk_frozen BK147.out 0; have hfz11_1 := blk_frozen BK147.out 1))
        refine bodyPost_ret (results_ct rfl _ _ gb147 24 #[.int .u64 t148, .int .i64 t150] (0, 0) _ rfl (by (with_reducible repeat (first | refine blk_drewN ?_ _ | refine blk_drew ?_ | refine blk_alloc ?_ _)); refine blk_put (cs := #[.int .u64 t148, .int .i64 0]) ?_ 1 _ rfl; (with_reducible repeat (first | refine blk_drewN ?_ _ | refine blk_drew ?_ | refine blk_alloc ?_ _)); refine blk_put (cs := #[.int .u64 0, .int .i64 0]) ?_ 0 _ rfl; (with_reducible repeat (first | refine blk_drewN ?_ _ | refine blk_drew ?_ | refine blk_alloc ?_ _)); exact BK147.out) Try.underlying24 rfl (by kernel_rfl)) rfl ?_
        exact ⟨by first | rfl | (simp [errW_none, errW_some] <;> rfl) | (simp [*, errW_none, errW_some] <;> rfl), by repeat (first | (with_reducible first | exact HB.out | apply below_alloc | apply pw_below_drewN | apply below_drew1 | refine below_set ?_ GE147.out) | exact HB.out)⟩
def header_Get.f (k : Nat) (l0 : List Int) : Option (Int × Int × Int × Int × Int × Int × Int × Int × Int × Int × Int × Int × Int × Int × Int × Int × Int × Int × Int × Int × Int × Int × Int × Int × Int) := if (l0.length : Int) < 34 then (some (0, 0, 0, 0, 0, 0, 0, 0, 0, 0, 0, 0, 0, 0, 0, 0, 0, 0, 0, 0, 0, 0, 0, 0, 2)) else ((octets_Get.f k l0 2 2).bind fun t10 => (if 0 < (l0.length : Int) then ((header_Known.f k (wrap64 (rd l0 0))).bind fun t15 => (if t15 = true then (if 1 < (l0.length : Int) then (if (Go.bits .and .u8 (rd l0 1) 15) = 2 then ((header_in.f t10.1 34 400).bind fun t16 => (if t16 = true then (if (l0.length : Int) < t10.1 then (some (0, 0, 0, 0, 0, 0, 0, 0, 0, 0, 0, 0, 0, 0, 0, 0, 0, 0, 0, 0, 0, 0, 0, 0, 2)) else (if (l0.length : Int) > t10.1 then (some (0, 0, 0, 0, 0, 0, 0, 0, 0, 0, 0, 0, 0, 0, 0, 0, 0, 0, 0, 0, 0, 0, 0, 0, 3)) else (if 4 < (l0.length : Int) then ((octets_Get.f k l0 6 2).bind fun t31 => ((octets_Signed.f k l0 8 8).bind fun t36 => ((ident_Get.f k l0 20).bind fun t41 => ((octets_Get.f k l0 30 2).bind fun t46 => ((octets_Signed.f k l0 33 1).bind fun t51 => (some (wrap64 (rd l0 0), wrap64 (rd l0 4), t31.1, t36.1, t41.1, t41.2.1, t46.1, t51.1, 0, 0, 0, 0, 0, 0, 0, 0, 0, 0, 0, 0, 0, 0, 0, t10.1, 0))))))) else (none)))) else (some (0, 0, 0, 0, 0, 0, 0, 0, 0, 0, 0, 0, 0, 0, 0, 0, 0, 0, 0, 0, 0, 0, 0, 0, 4)))) else (some (0, 0, 0, 0, 0, 0, 0, 0, 0, 0, 0, 0, 0, 0, 0, 0, 0, 0, 0, 0, 0, 0, 0, 0, 4))) else (none)) else (some (0, 0, 0, 0, 0, 0, 0, 0, 0, 0, 0, 0, 0, 0, 0, 0, 0, 0, 0, 0, 0, 0, 0, 0, 4)))) else (none)))
abbrev header_Get.c0 (x0 x1 x2 x3 x4 x5 x6 x7 x8 x9 x10 x11 x12 x13 x14 x15 x16 x17 x18 x19 x20 x21 x22 : Int) : Array Value := #[.int .i64 x0, .int .i64 x1, .int .i64 x2, .int .i64 x3, .int .u64 x4, .int .i64 x5, .int .i64 x6, .int .i64 x7, .int .i64 x8, .int .u64 x9, .int .i64 x10, .int .i64 x11, .int .i64 x12, .int .i64 x13, .int .i64 x14, .int .i64 x15, .int .i64 x16, .int .u64 x17, .int .i64 x18, .int .i64 x19, .int .i64 x20, .int .i64 x21, .int .i64 x22]
abbrev header_Get.v1 (x0 x1 x2 x3 x4 x5 x6 x7 x8 x9 x10 x11 x12 x13 x14 x15 x16 x17 x18 x19 x20 x21 x22 : Int) : Value := .agg #[.int .i64 x0, .int .i64 x1, .int .i64 x2, .int .i64 x3, .int .u64 x4, .int .i64 x5, .int .i64 x6, .int .i64 x7, .int .i64 x8, .int .u64 x9, .int .i64 x10, .int .i64 x11, .int .i64 x12, .int .i64 x13, .int .i64 x14, .int .i64 x15, .int .i64 x16, .int .u64 x17, .int .i64 x18, .int .i64 x19, .int .i64 x20, .int .i64 x21, .int .i64 x22]
open Go.Proofs.Ytiomlbkakiienaa.E in
set_option maxHeartbeats 60000000 in
set_option maxRecDepth 100000 in
theorem header_Get.calls (k : Nat) (A0 : Option Addr) (al : Nat) (l0 : List Int) (r1 r2 r3 r4 r5 r6 r7 r8 r9 em en eo ep eq er es et eu ev ew ex ey ez eA eB : Int) (w : World) (HR0 : Kd.C (Kd.int .u8) w A0 l0.length l0) (HC0 : l0.length ≤ al) (h : header_Get.f k l0 = some (r1, r2, r3, r4, r5, r6, r7, r8, r9, em, en, eo, ep, eq, er, es, et, eu, ev, ew, ex, ey, ez, eA, eB)) :
    Calls Try.prog 28 #[.slice A0 l0.length al] w fun e w' => e = .returned (.tuple #[.agg #[.int .i64 r1, .int .i64 r2, .int .i64 r3, .int .i64 r4, .int .u64 r5, .int .i64 r6, .int .i64 r7, .int .i64 r8, .int .i64 r9, .int .u64 em, .int .i64 en, .int .i64 eo, .int .i64 ep, .int .i64 eq, .int .i64 er, .int .i64 es, .int .i64 et, .int .u64 eu, .int .i64 ev, .int .i64 ew, .int .i64 ex, .int .i64 ey, .int .i64 ez], .int .i64 eA, .int .i64 eB]) ∧ Below w.heap.size w w' := by
 have H := h
 clear h
 unfold header_Get.f at H
 refine calls_of_wp (fn := Try.f28) (by kernel_rfl) rfl ?_
 have hS := St.enter #[.slice A0 l0.length al] 90 (by simp) [(0, .slice A0 l0.length al)] (by simp)
 have dj := Below.refl w.heap.size w
 refine wp_seq_k (fun K1 dq => ?_)
 refine reg_seq (I := I1_ w) (ps := [IsB (header_Get.c0 0 0 0 0 0 0 0 0 0 0 0 0 0 0 0 0 0 0 0 0 0 0 0) 28 w.heap.size, VI 0, VI 0]) (by kernel_rfl) ?_ ?_ rfl hS dj ?_ ?_
 ·exact bs1
 ·exact .cons (Stays.b _ _ _) (.v (.v (.nil)))
 ·refine .on rfl (fun a w hS hI hp => does_var (x_alloc rfl (by kernel_rfl)) (hI).size) ?_
  iterate 2 refine .on rfl (fun a w hS hI hp => does_val (x_assign rfl (rfl)) rfl) ?_
  exact .nil
 clear hS
 intro ea w3 hS dt hp
 obtain ⟨g4, cy, aq, ae⟩ := (show IsB _ 28 _ (sl _ 2) _ from hp 0 (by decide))
 have hS := hS.cons cy
 clear hp cy
 refine dq _ _ ?_
 refine wp_seq_k (fun K5 dr => ?_)
 refine wp_seq_k (fun K6 ds => ?_)
 refine reg_seq (I := I2_ w w3) (ps := [IsV (.slice A0 l0.length al), VI (l0.length : Int), VB (decide ((l0.length : Int) < 34))]) (by kernel_rfl) ?_ ?_ rfl hS ⟨dt, (bR w3)⟩ ?_ ?_
 ·exact bs2
 ·exact .v (.v (.v (.nil)))
 ·refine .ms 1 rfl rfl rfl ?_
  refine .on rfl (fun a w hS hI hp => does_val (x_len (e := 5) rfl (by kernel_rfl) (hp.V 0 rfl rfl)) rfl) ?_
  refine .on rfl (fun a w hS hI hp => does_val (x_bin rfl (hp.V 1 rfl rfl) (rfl) (b_lss _ _ _ _ _ _)) rfl) ?_
  exact .nil
 clear hS
 intro eb w8 hS bK hp
 have b6 : sl _ 10 = .bool (decide ((l0.length : Int) < 34)) := hp 2 (by decide)
 have hS := hS.cons b6
 clear hp b6
 refine ds _ _ ?_
 by_cases c1 : (l0.length : Int) < 34
 ·rw [if_pos c1] at H
  simp only [Option.some.injEq, Prod.mk.injEq] at H
  obtain ⟨rfl, rfl, rfl, rfl, rfl, rfl, rfl, rfl, rfl, rfl, rfl, rfl, rfl, rfl, rfl, rfl, rfl, rfl, rfl, rfl, rfl, rfl, rfl, rfl, rfl⟩ := H
  refine wp_cond_true ((hS.get 0 rfl).trans (bT (decide_eq_true c1))) ?_
  refine wp_seq_k (fun K9 b5 => ?_)
  refine reg_seq_tail 1 (I := I3_ w w3 w8) (ps := [IsV ((header_Get.v1 0 0 0 0 0 0 0 0 0 0 0 0 0 0 0 0 0 0 0 0 0 0 0))]) (by kernel_rfl) ?_ ?_ rfl hS ⟨bK.1, bK.2, (bR w8)⟩ ?_ ?_
  ·exact bs3
  ·exact .v (.nil)
  ·refine .on rfl (fun a w hS hI hp => does_val (x_build (vs := []) rfl (by rw [Array.toList_map]; exact (show [] = _ from rfl)) (by kernel_rfl)) rfl) ?_
   exact .nil
  clear hS
  intro dG ec hS bI hp
  replace hS := (hS.nil).cons (hS.get 1 rfl)
  have b7 : sl _ 11 = (header_Get.v1 0 0 0 0 0 0 0 0 0 0 0 0 0 0 0 0 0 0 0 0 0 0 0) := hp 0 (by decide)
  have hS := hS.cons b7
  clear hp b7
  show wpList _ _ _ [_, _, _] _ _
  refine list_step rfl (does_storeAll (g := g4) (cs := (header_Get.c0 0 0 0 0 0 0 0 0 0 0 0 0 0 0 0 0 0 0 0 0 0 0 0)) rfl (hS.get 1 rfl) (hS.get 0 rfl) ((bI.2.1.block g4 (blk_lt ae)).trans ae) (by kernel_rfl) (by kernel_rfl) (by kernel_rfl)) ?_
  rintro dW aO ⟨rfl, bi, hT⟩
  have bN := hT.below bI.1 aq (bI.1).size
  clear hT
  refine list_step rfl (R := fun v w' => Below _ _ w' ∧ (VI 0) v w') (does_val (x_assign rfl (rfl)) rfl) ?_
  rintro db dA ⟨hb, he⟩
  have bO := below_step bN hb
  have a0 := below_step (bR aO) hb
  obtain rfl : db = .int .i64 0 := he
  refine hS.next (v := .int .i64 0) (d := 3) rfl (by decide) (by rfl) ?_
  clear hS
  intro dI hS
  refine list_step rfl (R := fun v w' => Below _ _ w' ∧ (VI 2) v w') (does_val (x_assign rfl (rfl)) rfl) ?_
  rintro dc ed ⟨hb, he⟩
  have bP := below_step bO hb
  have a1 := below_step a0 hb
  have ct := below_step (bR dA) hb
  obtain rfl : dc = .int .i64 2 := he
  refine hS.next (v := .int .i64 2) (d := 4) rfl (by decide) (by rfl) ?_
  clear hS
  intro b3 hS
  refine wpList_nil ?_
  refine b5 _ _ ?_
  refine wp_ret ?_
  (try simp only [Exit.then, Exit.inBlock, Exit.jump, Exit.noGoto])
  exact bodyPost_ret (v := .tuple #[(header_Get.v1 0 0 0 0 0 0 0 0 0 0 0 0 0 0 0 0 0 0 0 0 0 0 0), .int .i64 0, .int .i64 2]) (results_list (rs := [.cell 2 28, .tmp 3, .tmp 4]) rfl (by simp) (Vals.cell g4 28 (header_Get.c0 0 0 0 0 0 0 0 0 0 0 0 0 0 0 0 0 0 0 0 0 0 0 0) (0, 0) _ (hS.get 3 rfl) ((a1.block g4 (blk_lt bi)).trans bi) Try.underlying28 rfl (by kernel_rfl) (Vals.at (hS.get 1 rfl) (Vals.at (hS.get 0 rfl) .nil)))) hS.nodef ⟨rfl, bP⟩
 rw [if_neg c1] at H
 obtain ⟨du, cJ, H⟩ := Option.bind_eq_some_iff.mp H
 obtain ⟨aa, aG⟩ := du
 (try dsimp only at H)
 by_cases c2 : 0 < (l0.length : Int)
 rotate_left
 ·rw [if_neg c2] at H
  exact absurd H (by simp)
 rw [if_pos c2] at H
 obtain ⟨ap, bu, H⟩ := Option.bind_eq_some_iff.mp H
 refine wp_cond_false ((hS.get 0 rfl).trans (bF (decide_eq_false c1))) ?_
 refine wp_skip ?_
 refine dr _ _ ?_
 refine wp_seq_k (fun K9 b5 => ?_)
 refine reg_seq (I := I3_ w w3 w8) (ps := [IsV (.slice A0 l0.length al), IsV (.tuple #[.int .i64 aa, .bool aG]), IsV (.tuple #[.int .i64 aa, .bool aG]), VI aa, VB aG, VI aa, VB aG]) (by kernel_rfl) ?_ ?_ rfl hS ⟨bK.1, bK.2, (bR w8)⟩ ?_ ?_
 ·exact bs3
 ·exact .v (.v (.v (.v (.v (.v (.v (.nil)))))))
 ·refine .ms 2 rfl rfl rfl ?_
  refine .on rfl (fun a w hS hI hp => does_call (by kernel_rfl) (ar3 (hp.V 0 rfl rfl) (rfl) (rfl)) ((octets_Get.calls k _ _ l0 2 2 aa aG _ (Kd.C_below HR0 hI.1) HC0 cJ).mono fun _ _ h => ⟨_, h.1, h.2.below, rfl⟩)) ?_
  refine .mv 1 rfl rfl rfl ?_
  iterate 2 refine .on rfl (fun a w hS hI hp => does_val (x_extract rfl (hp.V 2 rfl rfl) rfl) rfl) ?_
  refine .asg 3 rfl rfl rfl ?_
  refine .asg 4 rfl rfl rfl ?_
  exact .nil
 clear hS
 intro dH aO hS aN hp
 replace hS := ((hS.nil).cons (hS.get 2 rfl)).cons (hS.get 1 rfl)
 have cz : sl _ 5 = .int .i64 aa := hp 5 (by decide)
 have hS := hS.cons cz
 clear hp cz
 refine b5 _ _ ?_
 refine wp_seq_k (fun d3 cU => ?_)
 refine wp_block ?_
 by_cases c3 : ap = true
 rotate_left
 ·rw [if_neg c3] at H
  simp only [Option.some.injEq, Prod.mk.injEq] at H
  obtain ⟨rfl, rfl, rfl, rfl, rfl, rfl, rfl, rfl, rfl, rfl, rfl, rfl, rfl, rfl, rfl, rfl, rfl, rfl, rfl, rfl, rfl, rfl, rfl, rfl, rfl⟩ := H
  refine wp_seq_k (fun dk aW => ?_)
  refine reg_seq (I := I3_ w w3 aO) (ps := [IsV (.slice A0 l0.length al), IsA (.int .u8 (rd l0 0)), IsV (.int .u8 (rd l0 0)), VI (wrap64 (rd l0 0)), VB ap, VB (!ap), VB (!ap), VU, VU, VU, VU, VU, VB true, VB true, VU, VU, VU, VB true, VB true]) (by kernel_rfl) ?_ ?_ rfl hS ⟨aN.1, aN.2.1, (bR aO)⟩ ?_ ?_
  ·exact bs3
  ·exact .v (.cons (Stays.a _) (.v (.v (.v (.v (.v (.v (.v (.v (.v (.v (.v (.v (.v (.v (.v (.v (.v (.nil)))))))))))))))))))
  ·refine .ms 2 rfl rfl rfl ?_
   refine .on rfl (fun a w hS hI hp => does_index (e := 5) (xs := l0) rfl (hp.V 0 rfl rfl) (rfl) (by kernel_rfl) (by kernel_rfl) (by decide) c2 c2 ((Kd.C_below HR0 hI.1))) ?_
   refine .on rfl (fun a w hS hI hp => (hp.V 1 rfl rfl).elim fun _ h_ => does_val (x_load1 (d := .int .u8) rfl h_.1 (by kernel_rfl) rfl h_.2.2) rfl) ?_
   refine .on rfl (fun a w hS hI hp => does_val ((i64_w (rd l0 0)) ▸ x_convI rfl (by kernel_rfl) (by kernel_rfl) (hp.V 2 rfl rfl)) rfl) ?_
   refine .on rfl (fun a w hS hI hp => does_call (by kernel_rfl) (ar1 (hp.V 3 rfl rfl)) ((header_Known.calls k (wrap64 (rd l0 0)) ap _  bu).mono fun _ _ h => ⟨_, h.1, h.2.below, rfl⟩)) ?_
   refine .on rfl (fun a w hS hI hp => does_val (x_not rfl (hp.V 4 rfl rfl)) rfl) ?_
   refine .mv 5 rfl rfl rfl ?_
   iterate 5 refine .sn 6 24 rfl rfl ((congrArg (!·) (Bool.eq_false_iff.2 c3))) ?_
   refine .on rfl (fun a w hS hI hp => does_val (x_pickT rfl ((hp.V 6 rfl rfl).trans (bT (congrArg (!·) (Bool.eq_false_iff.2 c3)))) (rfl)) rfl) ?_
   refine .mv 12 rfl rfl rfl ?_
   iterate 3 refine .sn 13 31 rfl rfl rfl ?_
   refine .on rfl (fun a w hS hI hp => does_val (x_pickT rfl ((hp.V 13 rfl rfl).trans (bT rfl)) (rfl)) rfl) ?_
   refine .asg 17 rfl rfl rfl ?_
   exact .nil
  clear hS
  intro b3 bs hS aU hp
  have aw : sl _ 17 = .bool true := hp 18 (by decide)
  have hS := hS.cons aw
  clear hp aw
  refine aW _ _ ?_
  refine wp_cond_true ((hS.get 0 rfl).trans (bT rfl)) ?_
  refine wp_seq_k (fun dl bD => ?_)
  refine reg_seq_tail 1 (I := I3_ w w3 bs) (ps := [IsV ((header_Get.v1 0 0 0 0 0 0 0 0 0 0 0 0 0 0 0 0 0 0 0 0 0 0 0))]) (by kernel_rfl) ?_ ?_ rfl hS ⟨aU.1, aU.2.1, (bR bs)⟩ ?_ ?_
  ·exact bs3
  ·exact .v (.nil)
  ·refine .on rfl (fun a w hS hI hp => does_val (x_build (vs := []) rfl (by rw [Array.toList_map]; exact (show [] = _ from rfl)) (by kernel_rfl)) rfl) ?_
   exact .nil
  clear hS
  intro cQ dB hS az hp
  replace hS := (hS.nil).cons (hS.get 2 rfl)
  have ax : sl _ 36 = (header_Get.v1 0 0 0 0 0 0 0 0 0 0 0 0 0 0 0 0 0 0 0 0 0 0 0) := hp 0 (by decide)
  have hS := hS.cons ax
  clear hp ax
  show wpList _ _ _ [_, _, _] _ _
  refine list_step rfl (does_storeAll (g := g4) (cs := (header_Get.c0 0 0 0 0 0 0 0 0 0 0 0 0 0 0 0 0 0 0 0 0 0 0 0)) rfl (hS.get 1 rfl) (hS.get 0 rfl) ((az.2.1.block g4 (blk_lt ae)).trans ae) (by kernel_rfl) (by kernel_rfl) (by kernel_rfl)) ?_
  rintro dd aH ⟨rfl, av, hT⟩
  have aI := hT.below az.1 aq (az.1).size
  clear hT
  refine list_step rfl (R := fun v w' => Below _ _ w' ∧ (VI 0) v w') (does_val (x_assign rfl (rfl)) rfl) ?_
  rintro aZ bt ⟨hb, he⟩
  have ao := below_step aI hb
  have ar := below_step (bR aH) hb
  obtain rfl : aZ = .int .i64 0 := he
  refine hS.next (v := .int .i64 0) (d := 3) rfl (by decide) (by rfl) ?_
  clear hS
  intro bv hS
  refine list_step rfl (R := fun v w' => Below _ _ w' ∧ (VI 4) v w') (does_val (x_assign rfl (rfl)) rfl) ?_
  rintro bJ am ⟨hb, he⟩
  have aJ := below_step ao hb
  have au := below_step ar hb
  have a3 := below_step (bR bt) hb
  obtain rfl : bJ = .int .i64 4 := he
  refine hS.next (v := .int .i64 4) (d := 4) rfl (by decide) (by rfl) ?_
  clear hS
  intro cS hS
  refine wpList_nil ?_
  refine bD _ _ ?_
  refine wp_ret ?_
  (try simp only [Exit.then, Exit.inBlock, Exit.jump, Exit.noGoto])
  exact bodyPost_ret (v := .tuple #[(header_Get.v1 0 0 0 0 0 0 0 0 0 0 0 0 0 0 0 0 0 0 0 0 0 0 0), .int .i64 0, .int .i64 4]) (results_list (rs := [.cell 2 28, .tmp 3, .tmp 4]) rfl (by simp) (Vals.cell g4 28 (header_Get.c0 0 0 0 0 0 0 0 0 0 0 0 0 0 0 0 0 0 0 0 0 0 0 0) (0, 0) _ (hS.get 3 rfl) ((au.block g4 (blk_lt av)).trans av) Try.underlying28 rfl (by kernel_rfl) (Vals.at (hS.get 1 rfl) (Vals.at (hS.get 0 rfl) .nil)))) hS.nodef ⟨rfl, aJ⟩
 rw [if_pos c3] at H
 by_cases c4 : 1 < (l0.length : Int)
 rotate_left
 ·rw [if_neg c4] at H
  exact absurd H (by simp)
 rw [if_pos c4] at H
 refine wp_seq_k (fun dk aW => ?_)
 by_cases c5 : (Go.bits .and .u8 (rd l0 1) 15) = 2
 rotate_left
 ·rw [if_neg c5] at H
  simp only [Option.some.injEq, Prod.mk.injEq] at H
  obtain ⟨rfl, rfl, rfl, rfl, rfl, rfl, rfl, rfl, rfl, rfl, rfl, rfl, rfl, rfl, rfl, rfl, rfl, rfl, rfl, rfl, rfl, rfl, rfl, rfl, rfl⟩ := H
  refine reg_seq (I := I3_ w w3 aO) (ps := [IsV (.slice A0 l0.length al), IsA (.int .u8 (rd l0 0)), IsV (.int .u8 (rd l0 0)), VI (wrap64 (rd l0 0)), VB ap, VB (!ap), VB (!ap), IsV (.slice A0 l0.length al), IsA (.int .u8 (rd l0 1)), IsV (.int .u8 (rd l0 1)), IsV (.int .u8 (Go.bits .and .u8 (rd l0 1) 15)), VB (!decide ((Go.bits .and .u8 (rd l0 1) 15) = 2)), VB (!decide ((Go.bits .and .u8 (rd l0 1) 15) = 2)), VB (!decide ((Go.bits .and .u8 (rd l0 1) 15) = 2)), VU, VU, VU, VB true, VB true]) (by kernel_rfl) ?_ ?_ rfl hS ⟨aN.1, aN.2.1, (bR aO)⟩ ?_ ?_
  ·exact bs3
  ·exact .v (.cons (Stays.a _) (.v (.v (.v (.v (.v (.v (.cons (Stays.a _) (.v (.v (.v (.v (.v (.v (.v (.v (.v (.v (.nil)))))))))))))))))))
  ·refine .ms 2 rfl rfl rfl ?_
   refine .on rfl (fun a w hS hI hp => does_index (e := 5) (xs := l0) rfl (hp.V 0 rfl rfl) (rfl) (by kernel_rfl) (by kernel_rfl) (by decide) c2 c2 ((Kd.C_below HR0 hI.1))) ?_
   refine .on rfl (fun a w hS hI hp => (hp.V 1 rfl rfl).elim fun _ h_ => does_val (x_load1 (d := .int .u8) rfl h_.1 (by kernel_rfl) rfl h_.2.2) rfl) ?_
   refine .on rfl (fun a w hS hI hp => does_val ((i64_w (rd l0 0)) ▸ x_convI rfl (by kernel_rfl) (by kernel_rfl) (hp.V 2 rfl rfl)) rfl) ?_
   refine .on rfl (fun a w hS hI hp => does_call (by kernel_rfl) (ar1 (hp.V 3 rfl rfl)) ((header_Known.calls k (wrap64 (rd l0 0)) ap _  bu).mono fun _ _ h => ⟨_, h.1, h.2.below, rfl⟩)) ?_
   refine .on rfl (fun a w hS hI hp => does_val (x_not rfl (hp.V 4 rfl rfl)) rfl) ?_
   refine .mv 5 rfl rfl rfl ?_
   refine .oy 6 24 rfl rfl ((congrArg (!·) c3)) (fun a w hS hI hp => does_val (x_move rfl (hS.get 2 rfl)) rfl) ?_
   refine .oy 6 24 rfl rfl ((congrArg (!·) c3)) (fun a w hS hI hp => does_index (e := 5) (xs := l0) rfl (hp.V 7 rfl rfl) (rfl) (by kernel_rfl) (by kernel_rfl) (by decide) c4 c4 ((Kd.C_below HR0 hI.1))) ?_
   refine .oy 6 24 rfl rfl ((congrArg (!·) c3)) (fun a w hS hI hp => (hp.V 8 rfl rfl).elim fun _ h_ => does_val (x_load1 (d := .int .u8) rfl h_.1 (by kernel_rfl) rfl h_.2.2) rfl) ?_
   refine .oy 6 24 rfl rfl ((congrArg (!·) c3)) (fun a w hS hI hp => does_val (x_bin rfl (hp.V 9 rfl rfl) (rfl) (b_and _ _ _ _ _ _)) rfl) ?_
   refine .oy 6 24 rfl rfl ((congrArg (!·) c3)) (fun a w hS hI hp => does_val (x_bin rfl (hp.V 10 rfl rfl) (rfl) (b_neq _ _ _ _ _ _)) rfl) ?_
   refine .on rfl (fun a w hS hI hp => does_val (x_pickF rfl ((hp.V 6 rfl rfl).trans (bF (congrArg (!·) c3))) (hp.V 11 rfl rfl)) rfl) ?_
   refine .mv 12 rfl rfl rfl ?_
   iterate 3 refine .sn 13 31 rfl rfl ((congrArg (!·) (decide_eq_false c5))) ?_
   refine .on rfl (fun a w hS hI hp => does_val (x_pickT rfl ((hp.V 13 rfl rfl).trans (bT (congrArg (!·) (decide_eq_false c5)))) (rfl)) rfl) ?_
   refine .asg 17 rfl rfl rfl ?_
   exact .nil
  clear hS
  intro b3 bs hS aU hp
  have aw : sl _ 17 = .bool true := hp 18 (by decide)
  have hS := hS.cons aw
  clear hp aw
  refine aW _ _ ?_
  refine wp_cond_true ((hS.get 0 rfl).trans (bT rfl)) ?_
  refine wp_seq_k (fun dl bD => ?_)
  refine reg_seq_tail 1 (I := I3_ w w3 bs) (ps := [IsV ((header_Get.v1 0 0 0 0 0 0 0 0 0 0 0 0 0 0 0 0 0 0 0 0 0 0 0))]) (by kernel_rfl) ?_ ?_ rfl hS ⟨aU.1, aU.2.1, (bR bs)⟩ ?_ ?_
  ·exact bs3
  ·exact .v (.nil)
  ·refine .on rfl (fun a w hS hI hp => does_val (x_build (vs := []) rfl (by rw [Array.toList_map]; exact (show [] = _ from rfl)) (by kernel_rfl)) rfl) ?_
   exact .nil
  clear hS
  intro cQ dB hS az hp
  replace hS := (hS.nil).cons (hS.get 2 rfl)
  have ax : sl _ 36 = (header_Get.v1 0 0 0 0 0 0 0 0 0 0 0 0 0 0 0 0 0 0 0 0 0 0 0) := hp 0 (by decide)
  have hS := hS.cons ax
  clear hp ax
  show wpList _ _ _ [_, _, _] _ _
  refine list_step rfl (does_storeAll (g := g4) (cs := (header_Get.c0 0 0 0 0 0 0 0 0 0 0 0 0 0 0 0 0 0 0 0 0 0 0 0)) rfl (hS.get 1 rfl) (hS.get 0 rfl) ((az.2.1.block g4 (blk_lt ae)).trans ae) (by kernel_rfl) (by kernel_rfl) (by kernel_rfl)) ?_
  rintro dd aH ⟨rfl, av, hT⟩
  have aI := hT.below az.1 aq (az.1).size
  clear hT
  refine list_step rfl (R := fun v w' => Below _ _ w' ∧ (VI 0) v w') (does_val (x_assign rfl (rfl)) rfl) ?_
  rintro aZ bt ⟨hb, he⟩
  have ao := below_step aI hb
  have ar := below_step (bR aH) hb
  obtain rfl : aZ = .int .i64 0 := he
  refine hS.next (v := .int .i64 0) (d := 3) rfl (by decide) (by rfl) ?_
  clear hS
  intro bv hS
  refine list_step rfl (R := fun v w' => Below _ _ w' ∧ (VI 4) v w') (does_val (x_assign rfl (rfl)) rfl) ?_
  rintro bJ am ⟨hb, he⟩
  have aJ := below_step ao hb
  have au := below_step ar hb
  have a3 := below_step (bR bt) hb
  obtain rfl : bJ = .int .i64 4 := he
  refine hS.next (v := .int .i64 4) (d := 4) rfl (by decide) (by rfl) ?_
  clear hS
  intro cS hS
  refine wpList_nil ?_
  refine bD _ _ ?_
  refine wp_ret ?_
  (try simp only [Exit.then, Exit.inBlock, Exit.jump, Exit.noGoto])
  exact bodyPost_ret (v := .tuple #[(header_Get.v1 0 0 0 0 0 0 0 0 0 0 0 0 0 0 0 0 0 0 0 0 0 0 0), .int .i64 0, .int .i64 4]) (results_list (rs := [.cell 2 28, .tmp 3, .tmp 4]) rfl (by simp) (Vals.cell g4 28 (header_Get.c0 0 0 0 0 0 0 0 0 0 0 0 0 0 0 0 0 0 0 0 0 0 0 0) (0, 0) _ (hS.get 3 rfl) ((au.block g4 (blk_lt av)).trans av) Try.underlying28 rfl (by kernel_rfl) (Vals.at (hS.get 1 rfl) (Vals.at (hS.get 0 rfl) .nil)))) hS.nodef ⟨rfl, aJ⟩
 rw [if_pos c5] at H
 obtain ⟨aV, cK, H⟩ := Option.bind_eq_some_iff.mp H
 refine reg_seq (I := I3_ w w3 aO) (ps := [IsV (.slice A0 l0.length al), IsA (.int .u8 (rd l0 0)), IsV (.int .u8 (rd l0 0)), VI (wrap64 (rd l0 0)), VB ap, VB (!ap), VB (!ap), IsV (.slice A0 l0.length al), IsA (.int .u8 (rd l0 1)), IsV (.int .u8 (rd l0 1)), IsV (.int .u8 (Go.bits .and .u8 (rd l0 1) 15)), VB (!decide ((Go.bits .and .u8 (rd l0 1) 15) = 2)), VB (!decide ((Go.bits .and .u8 (rd l0 1) 15) = 2)), VB (!decide ((Go.bits .and .u8 (rd l0 1) 15) = 2)), VI aa, VB aV, VB (!aV), VB (!aV), VB (!aV)]) (by kernel_rfl) ?_ ?_ rfl hS ⟨aN.1, aN.2.1, (bR aO)⟩ ?_ ?_
 ·exact bs3
 ·exact .v (.cons (Stays.a _) (.v (.v (.v (.v (.v (.v (.cons (Stays.a _) (.v (.v (.v (.v (.v (.v (.v (.v (.v (.v (.nil)))))))))))))))))))
 ·refine .ms 2 rfl rfl rfl ?_
  refine .on rfl (fun a w hS hI hp => does_index (e := 5) (xs := l0) rfl (hp.V 0 rfl rfl) (rfl) (by kernel_rfl) (by kernel_rfl) (by decide) c2 c2 ((Kd.C_below HR0 hI.1))) ?_
  refine .on rfl (fun a w hS hI hp => (hp.V 1 rfl rfl).elim fun _ h_ => does_val (x_load1 (d := .int .u8) rfl h_.1 (by kernel_rfl) rfl h_.2.2) rfl) ?_
  refine .on rfl (fun a w hS hI hp => does_val ((i64_w (rd l0 0)) ▸ x_convI rfl (by kernel_rfl) (by kernel_rfl) (hp.V 2 rfl rfl)) rfl) ?_
  refine .on rfl (fun a w hS hI hp => does_call (by kernel_rfl) (ar1 (hp.V 3 rfl rfl)) ((header_Known.calls k (wrap64 (rd l0 0)) ap _  bu).mono fun _ _ h => ⟨_, h.1, h.2.below, rfl⟩)) ?_
  refine .on rfl (fun a w hS hI hp => does_val (x_not rfl (hp.V 4 rfl rfl)) rfl) ?_
  refine .mv 5 rfl rfl rfl ?_
  refine .oy 6 24 rfl rfl ((congrArg (!·) c3)) (fun a w hS hI hp => does_val (x_move rfl (hS.get 2 rfl)) rfl) ?_
  refine .oy 6 24 rfl rfl ((congrArg (!·) c3)) (fun a w hS hI hp => does_index (e := 5) (xs := l0) rfl (hp.V 7 rfl rfl) (rfl) (by kernel_rfl) (by kernel_rfl) (by decide) c4 c4 ((Kd.C_below HR0 hI.1))) ?_
  refine .oy 6 24 rfl rfl ((congrArg (!·) c3)) (fun a w hS hI hp => (hp.V 8 rfl rfl).elim fun _ h_ => does_val (x_load1 (d := .int .u8) rfl h_.1 (by kernel_rfl) rfl h_.2.2) rfl) ?_
  refine .oy 6 24 rfl rfl ((congrArg (!·) c3)) (fun a w hS hI hp => does_val (x_bin rfl (hp.V 9 rfl rfl) (rfl) (b_and _ _ _ _ _ _)) rfl) ?_
  refine .oy 6 24 rfl rfl ((congrArg (!·) c3)) (fun a w hS hI hp => does_val (x_bin rfl (hp.V 10 rfl rfl) (rfl) (b_neq _ _ _ _ _ _)) rfl) ?_
  refine .on rfl (fun a w hS hI hp => does_val (x_pickF rfl ((hp.V 6 rfl rfl).trans (bF (congrArg (!·) c3))) (hp.V 11 rfl rfl)) rfl) ?_
  refine .mv 12 rfl rfl rfl ?_
  refine .oy 13 31 rfl rfl ((congrArg (!·) (decide_eq_true c5))) (fun a w hS hI hp => does_val (x_move rfl (hS.get 0 rfl)) rfl) ?_
  refine .oy 13 31 rfl rfl ((congrArg (!·) (decide_eq_true c5))) (fun a w hS hI hp => does_call (by kernel_rfl) (ar3 (hp.V 14 rfl rfl) (rfl) (rfl)) ((header_in.calls aa 34 400 aV _  cK).mono fun _ _ h => ⟨_, h.1, h.2.below, rfl⟩)) ?_
  refine .oy 13 31 rfl rfl ((congrArg (!·) (decide_eq_true c5))) (fun a w hS hI hp => does_val (x_not rfl (hp.V 15 rfl rfl)) rfl) ?_
  refine .on rfl (fun a w hS hI hp => does_val (x_pickF rfl ((hp.V 13 rfl rfl).trans (bF (congrArg (!·) (decide_eq_true c5)))) (hp.V 16 rfl rfl)) rfl) ?_
  refine .asg 17 rfl rfl rfl ?_
  exact .nil
 clear hS
 intro dJ bL hS aX hp
 have aw : sl _ 17 = .bool (!aV) := hp 18 (by decide)
 have hS := hS.cons aw
 clear hp aw
 refine aW _ _ ?_
 by_cases c6 : aV = true
 rotate_left
 ·rw [if_neg c6] at H
  simp only [Option.some.injEq, Prod.mk.injEq] at H
  obtain ⟨rfl, rfl, rfl, rfl, rfl, rfl, rfl, rfl, rfl, rfl, rfl, rfl, rfl, rfl, rfl, rfl, rfl, rfl, rfl, rfl, rfl, rfl, rfl, rfl, rfl⟩ := H
  refine wp_cond_true ((hS.get 0 rfl).trans (bT (congrArg (!·) (Bool.eq_false_iff.2 c6)))) ?_
  refine wp_seq_k (fun dm bE => ?_)
  refine reg_seq_tail 1 (I := I3_ w w3 bL) (ps := [IsV ((header_Get.v1 0 0 0 0 0 0 0 0 0 0 0 0 0 0 0 0 0 0 0 0 0 0 0))]) (by kernel_rfl) ?_ ?_ rfl hS ⟨aX.1, aX.2.1, (bR bL)⟩ ?_ ?_
  ·exact bs3
  ·exact .v (.nil)
  ·refine .on rfl (fun a w hS hI hp => does_val (x_build (vs := []) rfl (by rw [Array.toList_map]; exact (show [] = _ from rfl)) (by kernel_rfl)) rfl) ?_
   exact .nil
  clear hS
  intro cR aH hS ay hp
  replace hS := (hS.nil).cons (hS.get 2 rfl)
  have ax : sl _ 36 = (header_Get.v1 0 0 0 0 0 0 0 0 0 0 0 0 0 0 0 0 0 0 0 0 0 0 0) := hp 0 (by decide)
  have hS := hS.cons ax
  clear hp ax
  show wpList _ _ _ [_, _, _] _ _
  refine list_step rfl (does_storeAll (g := g4) (cs := (header_Get.c0 0 0 0 0 0 0 0 0 0 0 0 0 0 0 0 0 0 0 0 0 0 0 0)) rfl (hS.get 1 rfl) (hS.get 0 rfl) ((ay.2.1.block g4 (blk_lt ae)).trans ae) (by kernel_rfl) (by kernel_rfl) (by kernel_rfl)) ?_
  rintro aZ bt ⟨rfl, bj, hT⟩
  have ao := hT.below ay.1 aq (ay.1).size
  clear hT
  refine list_step rfl (R := fun v w' => Below _ _ w' ∧ (VI 0) v w') (does_val (x_assign rfl (rfl)) rfl) ?_
  rintro de dC ⟨hb, he⟩
  have bQ := below_step ao hb
  have a2 := below_step (bR bt) hb
  obtain rfl : de = .int .i64 0 := he
  refine hS.next (v := .int .i64 0) (d := 3) rfl (by decide) (by rfl) ?_
  clear hS
  intro dK hS
  refine list_step rfl (R := fun v w' => Below _ _ w' ∧ (VI 4) v w') (does_val (x_assign rfl (rfl)) rfl) ?_
  rintro cp cB ⟨hb, he⟩
  have aK := below_step bQ hb
  have a4 := below_step a2 hb
  have cu := below_step (bR dC) hb
  obtain rfl : cp = .int .i64 4 := he
  refine hS.next (v := .int .i64 4) (d := 4) rfl (by decide) (by rfl) ?_
  clear hS
  intro b4 hS
  refine wpList_nil ?_
  refine bE _ _ ?_
  refine wp_ret ?_
  (try simp only [Exit.then, Exit.inBlock, Exit.jump, Exit.noGoto])
  exact bodyPost_ret (v := .tuple #[(header_Get.v1 0 0 0 0 0 0 0 0 0 0 0 0 0 0 0 0 0 0 0 0 0 0 0), .int .i64 0, .int .i64 4]) (results_list (rs := [.cell 2 28, .tmp 3, .tmp 4]) rfl (by simp) (Vals.cell g4 28 (header_Get.c0 0 0 0 0 0 0 0 0 0 0 0 0 0 0 0 0 0 0 0 0 0 0 0) (0, 0) _ (hS.get 3 rfl) ((a4.block g4 (blk_lt bj)).trans bj) Try.underlying28 rfl (by kernel_rfl) (Vals.at (hS.get 1 rfl) (Vals.at (hS.get 0 rfl) .nil)))) hS.nodef ⟨rfl, aK⟩
 rw [if_pos c6] at H
 refine wp_cond_false ((hS.get 0 rfl).trans (bF (congrArg (!·) c6))) ?_
 refine wp_seq_k (fun dm bE => ?_)
 refine reg_seq (I := I3_ w w3 bL) (ps := [IsV (.slice A0 l0.length al), VI (l0.length : Int), VI aa, VB (decide ((l0.length : Int) < aa)), VB (decide ((l0.length : Int) < aa))]) (by kernel_rfl) ?_ ?_ rfl hS ⟨aX.1, aX.2.1, (bR bL)⟩ ?_ ?_
 ·exact bs3
 ·exact .v (.v (.v (.v (.v (.nil)))))
 ·refine .ms 3 rfl rfl rfl ?_
  refine .on rfl (fun a w hS hI hp => does_val (x_len (e := 5) rfl (by kernel_rfl) (hp.V 0 rfl rfl)) rfl) ?_
  refine .ms 1 rfl rfl rfl ?_
  refine .on rfl (fun a w hS hI hp => does_val (x_bin rfl (hp.V 1 rfl rfl) (hp.V 2 rfl rfl) (b_lss _ _ _ _ _ _)) rfl) ?_
  refine .asg 3 rfl rfl rfl ?_
  exact .nil
 clear hS
 intro cR aH hS ay hp
 replace hS := (((hS.nil).cons (hS.get 3 rfl)).cons (hS.get 2 rfl)).cons (hS.get 1 rfl)
 have b8 : sl _ 37 = .bool (decide ((l0.length : Int) < aa)) := hp 4 (by decide)
 have hS := hS.cons b8
 clear hp b8
 refine bE _ _ ?_
 by_cases c7 : (l0.length : Int) < aa
 ·rw [if_pos c7] at H
  simp only [Option.some.injEq, Prod.mk.injEq] at H
  obtain ⟨rfl, rfl, rfl, rfl, rfl, rfl, rfl, rfl, rfl, rfl, rfl, rfl, rfl, rfl, rfl, rfl, rfl, rfl, rfl, rfl, rfl, rfl, rfl, rfl, rfl⟩ := H
  refine wp_cond_true ((hS.get 0 rfl).trans (bT (decide_eq_true c7))) ?_
  refine wp_seq_k (fun dn bG => ?_)
  refine reg_seq_tail 1 (I := I3_ w w3 aH) (ps := [IsV ((header_Get.v1 0 0 0 0 0 0 0 0 0 0 0 0 0 0 0 0 0 0 0 0 0 0 0))]) (by kernel_rfl) ?_ ?_ rfl hS ⟨ay.1, ay.2.1, (bR aH)⟩ ?_ ?_
  ·exact bs3
  ·exact .v (.nil)
  ·refine .on rfl (fun a w hS hI hp => does_val (x_build (vs := []) rfl (by rw [Array.toList_map]; exact (show [] = _ from rfl)) (by kernel_rfl)) rfl) ?_
   exact .nil
  clear hS
  intro bv am hS ac hp
  replace hS := (hS.nil).cons (hS.get 2 rfl)
  have b9 : sl _ 42 = (header_Get.v1 0 0 0 0 0 0 0 0 0 0 0 0 0 0 0 0 0 0 0 0 0 0 0) := hp 0 (by decide)
  have hS := hS.cons b9
  clear hp b9
  show wpList _ _ _ [_, _, _] _ _
  refine list_step rfl (does_storeAll (g := g4) (cs := (header_Get.c0 0 0 0 0 0 0 0 0 0 0 0 0 0 0 0 0 0 0 0 0 0 0 0)) rfl (hS.get 1 rfl) (hS.get 0 rfl) ((ac.2.1.block g4 (blk_lt ae)).trans ae) (by kernel_rfl) (by kernel_rfl) (by kernel_rfl)) ?_
  rintro cp cB ⟨rfl, bk, hT⟩
  have aK := hT.below ac.1 aq (ac.1).size
  clear hT
  refine list_step rfl (R := fun v w' => Below _ _ w' ∧ (VI 0) v w') (does_val (x_assign rfl (rfl)) rfl) ?_
  rintro df dD ⟨hb, he⟩
  have bS := below_step aK hb
  have a5 := below_step (bR cB) hb
  obtain rfl : df = .int .i64 0 := he
  refine hS.next (v := .int .i64 0) (d := 3) rfl (by decide) (by rfl) ?_
  clear hS
  intro dL hS
  refine list_step rfl (R := fun v w' => Below _ _ w' ∧ (VI 2) v w') (does_val (x_assign rfl (rfl)) rfl) ?_
  rintro cq cD ⟨hb, he⟩
  have aL := below_step bS hb
  have a6 := below_step a5 hb
  have cv := below_step (bR dD) hb
  obtain rfl : cq = .int .i64 2 := he
  refine hS.next (v := .int .i64 2) (d := 4) rfl (by decide) (by rfl) ?_
  clear hS
  intro dM hS
  refine wpList_nil ?_
  refine bG _ _ ?_
  refine wp_ret ?_
  (try simp only [Exit.then, Exit.inBlock, Exit.jump, Exit.noGoto])
  exact bodyPost_ret (v := .tuple #[(header_Get.v1 0 0 0 0 0 0 0 0 0 0 0 0 0 0 0 0 0 0 0 0 0 0 0), .int .i64 0, .int .i64 2]) (results_list (rs := [.cell 2 28, .tmp 3, .tmp 4]) rfl (by simp) (Vals.cell g4 28 (header_Get.c0 0 0 0 0 0 0 0 0 0 0 0 0 0 0 0 0 0 0 0 0 0 0 0) (0, 0) _ (hS.get 3 rfl) ((a6.block g4 (blk_lt bk)).trans bk) Try.underlying28 rfl (by kernel_rfl) (Vals.at (hS.get 1 rfl) (Vals.at (hS.get 0 rfl) .nil)))) hS.nodef ⟨rfl, aL⟩
 rw [if_neg c7] at H
 refine wp_cond_false ((hS.get 0 rfl).trans (bF (decide_eq_false c7))) ?_
 refine wp_seq_k (fun dn bG => ?_)
 refine reg_seq (I := I3_ w w3 aH) (ps := [IsV (.slice A0 l0.length al), VI (l0.length : Int), VI aa, VB (decide ((l0.length : Int) > aa)), VB (decide ((l0.length : Int) > aa))]) (by kernel_rfl) ?_ ?_ rfl hS ⟨ay.1, ay.2.1, (bR aH)⟩ ?_ ?_
 ·exact bs3
 ·exact .v (.v (.v (.v (.v (.nil)))))
 ·refine .ms 3 rfl rfl rfl ?_
  refine .on rfl (fun a w hS hI hp => does_val (x_len (e := 5) rfl (by kernel_rfl) (hp.V 0 rfl rfl)) rfl) ?_
  refine .ms 1 rfl rfl rfl ?_
  refine .on rfl (fun a w hS hI hp => does_val (x_bin rfl (hp.V 1 rfl rfl) (hp.V 2 rfl rfl) (b_gtr _ _ _ _ _ _)) rfl) ?_
  refine .asg 3 rfl rfl rfl ?_
  exact .nil
 clear hS
 intro bv am hS ac hp
 replace hS := (((hS.nil).cons (hS.get 3 rfl)).cons (hS.get 2 rfl)).cons (hS.get 1 rfl)
 have ca : sl _ 43 = .bool (decide ((l0.length : Int) > aa)) := hp 4 (by decide)
 have hS := hS.cons ca
 clear hp ca
 refine bG _ _ ?_
 by_cases c8 : (l0.length : Int) > aa
 ·rw [if_pos c8] at H
  simp only [Option.some.injEq, Prod.mk.injEq] at H
  obtain ⟨rfl, rfl, rfl, rfl, rfl, rfl, rfl, rfl, rfl, rfl, rfl, rfl, rfl, rfl, rfl, rfl, rfl, rfl, rfl, rfl, rfl, rfl, rfl, rfl, rfl⟩ := H
  refine wp_cond_true ((hS.get 0 rfl).trans (bT (decide_eq_true c8))) ?_
  refine wp_seq_k (fun dp bH => ?_)
  refine reg_seq_tail 1 (I := I3_ w w3 am) (ps := [IsV ((header_Get.v1 0 0 0 0 0 0 0 0 0 0 0 0 0 0 0 0 0 0 0 0 0 0 0))]) (by kernel_rfl) ?_ ?_ rfl hS ⟨ac.1, ac.2.1, (bR am)⟩ ?_ ?_
  ·exact bs3
  ·exact .v (.nil)
  ·refine .on rfl (fun a w hS hI hp => does_val (x_build (vs := []) rfl (by rw [Array.toList_map]; exact (show [] = _ from rfl)) (by kernel_rfl)) rfl) ?_
   exact .nil
  clear hS
  intro b4 cC hS an hp
  replace hS := (hS.nil).cons (hS.get 2 rfl)
  have cb : sl _ 48 = (header_Get.v1 0 0 0 0 0 0 0 0 0 0 0 0 0 0 0 0 0 0 0 0 0 0 0) := hp 0 (by decide)
  have hS := hS.cons cb
  clear hp cb
  show wpList _ _ _ [_, _, _] _ _
  refine list_step rfl (does_storeAll (g := g4) (cs := (header_Get.c0 0 0 0 0 0 0 0 0 0 0 0 0 0 0 0 0 0 0 0 0 0 0 0)) rfl (hS.get 1 rfl) (hS.get 0 rfl) ((an.2.1.block g4 (blk_lt ae)).trans ae) (by kernel_rfl) (by kernel_rfl) (by kernel_rfl)) ?_
  rintro cq cD ⟨rfl, bl, hT⟩
  have aL := hT.below an.1 aq (an.1).size
  clear hT
  refine list_step rfl (R := fun v w' => Below _ _ w' ∧ (VI 0) v w') (does_val (x_assign rfl (rfl)) rfl) ?_
  rintro cr bM ⟨hb, he⟩
  have aM := below_step aL hb
  have a8 := below_step (bR cD) hb
  obtain rfl : cr = .int .i64 0 := he
  refine hS.next (v := .int .i64 0) (d := 3) rfl (by decide) (by rfl) ?_
  clear hS
  intro dN hS
  refine list_step rfl (R := fun v w' => Below _ _ w' ∧ (VI 3) v w') (does_val (x_assign rfl (rfl)) rfl) ?_
  rintro dg ee ⟨hb, he⟩
  have bU := below_step aM hb
  have a9 := below_step a8 hb
  have cw := below_step (bR bM) hb
  obtain rfl : dg = .int .i64 3 := he
  refine hS.next (v := .int .i64 3) (d := 4) rfl (by decide) (by rfl) ?_
  clear hS
  intro cT hS
  refine wpList_nil ?_
  refine bH _ _ ?_
  refine wp_ret ?_
  (try simp only [Exit.then, Exit.inBlock, Exit.jump, Exit.noGoto])
  exact bodyPost_ret (v := .tuple #[(header_Get.v1 0 0 0 0 0 0 0 0 0 0 0 0 0 0 0 0 0 0 0 0 0 0 0), .int .i64 0, .int .i64 3]) (results_list (rs := [.cell 2 28, .tmp 3, .tmp 4]) rfl (by simp) (Vals.cell g4 28 (header_Get.c0 0 0 0 0 0 0 0 0 0 0 0 0 0 0 0 0 0 0 0 0 0 0 0) (0, 0) _ (hS.get 3 rfl) ((a9.block g4 (blk_lt bl)).trans bl) Try.underlying28 rfl (by kernel_rfl) (Vals.at (hS.get 1 rfl) (Vals.at (hS.get 0 rfl) .nil)))) hS.nodef ⟨rfl, bU⟩
 rw [if_neg c8] at H
 by_cases c9 : 4 < (l0.length : Int)
 rotate_left
 ·rw [if_neg c9] at H
  exact absurd H (by simp)
 rw [if_pos c9] at H
 obtain ⟨dv, cL, H⟩ := Option.bind_eq_some_iff.mp H
 obtain ⟨ad, aP⟩ := dv
 (try dsimp only at H)
 obtain ⟨dw, cM, H⟩ := Option.bind_eq_some_iff.mp H
 obtain ⟨af, aQ⟩ := dw
 (try dsimp only at H)
 obtain ⟨dx, cN, H⟩ := Option.bind_eq_some_iff.mp H
 obtain ⟨ah, ai, aR⟩ := dx
 (try dsimp only at H)
 obtain ⟨dy, cO, H⟩ := Option.bind_eq_some_iff.mp H
 obtain ⟨aj, aS⟩ := dy
 (try dsimp only at H)
 obtain ⟨dz, cP, H⟩ := Option.bind_eq_some_iff.mp H
 obtain ⟨ak, aT⟩ := dz
 (try dsimp only at H)
 simp only [Option.some.injEq, Prod.mk.injEq] at H
 obtain ⟨rfl, rfl, rfl, rfl, rfl, rfl, rfl, rfl, rfl, rfl, rfl, rfl, rfl, rfl, rfl, rfl, rfl, rfl, rfl, rfl, rfl, rfl, rfl, rfl, rfl⟩ := H
 refine wp_cond_false ((hS.get 0 rfl).trans (bF (decide_eq_false c8))) ?_
 refine wp_skip ?_
 refine cU _ _ ?_
 refine wp_seq_k (fun dp bH => ?_)
 refine reg_any_tail 10 [0, 1, 3, 7, 0, 16, 48, 112, 255, 0, 1023] (I := I3_ w w3 am) (ps := [IsV (.slice A0 l0.length al), IsA (.int .u8 (rd l0 0)), IsV (.int .u8 (rd l0 0)), VI (wrap64 (rd l0 0)), IsV (.slice A0 l0.length al), IsA (.int .u8 (rd l0 4)), IsV (.int .u8 (rd l0 4)), VI (wrap64 (rd l0 4)), IsV ((header_Get.v1 (wrap64 (rd l0 0)) (wrap64 (rd l0 4)) 0 0 0 0 0 0 0 0 0 0 0 0 0 0 0 0 0 0 0 0 0)), IsB (header_Get.c0 0 0 0 0 0 0 0 0 0 0 0 0 0 0 0 0 0 0 0 0 0 0 0) 28 am.heap.size]) (by kernel_rfl) (by kernel_rfl) (by kernel_rfl) (by decide) ?_ ?_ rfl hS ⟨ac.1, ac.2.1, (bR am)⟩ ?_ ?_
 ·exact bs3
 ·exact .v (.cons (Stays.a _) (.v (.v (.v (.cons (Stays.a _) (.v (.v (.v (.cons (Stays.b _ _ _) (.nil))))))))))
 ·refine .ms 3 rfl rfl rfl ?_
  refine .on rfl (fun a w hS hI hp => does_index (e := 5) (xs := l0) rfl (hp.V 0 rfl rfl) (rfl) (by kernel_rfl) (by kernel_rfl) (by decide) c2 c2 ((Kd.C_below HR0 hI.1))) ?_
  refine .on rfl (fun a w hS hI hp => (hp.V 1 rfl rfl).elim fun _ h_ => does_val (x_load1 (d := .int .u8) rfl h_.1 (by kernel_rfl) rfl h_.2.2) rfl) ?_
  refine .on rfl (fun a w hS hI hp => does_val ((i64_w (rd l0 0)) ▸ x_convI rfl (by kernel_rfl) (by kernel_rfl) (hp.V 2 rfl rfl)) rfl) ?_
  refine .ms 3 rfl rfl rfl ?_
  refine .on rfl (fun a w hS hI hp => does_index (e := 5) (xs := l0) rfl (hp.V 4 rfl rfl) (rfl) (by kernel_rfl) (by kernel_rfl) (by decide) c9 c9 ((Kd.C_below HR0 hI.1))) ?_
  refine .on rfl (fun a w hS hI hp => (hp.V 5 rfl rfl).elim fun _ h_ => does_val (x_load1 (d := .int .u8) rfl h_.1 (by kernel_rfl) rfl h_.2.2) rfl) ?_
  refine .on rfl (fun a w hS hI hp => does_val ((i64_w (rd l0 4)) ▸ x_convI rfl (by kernel_rfl) (by kernel_rfl) (hp.V 6 rfl rfl)) rfl) ?_
  refine .on rfl (fun a w hS hI hp => does_val (x_build (vs := [(0, .int .i64 (wrap64 (rd l0 0))), (1, .int .i64 (wrap64 (rd l0 4)))]) rfl (by rw [Array.toList_map]; exact (show [(0, a.eval (.tmp 52)), (1, a.eval (.tmp 56))] = _ from (li_cons (hp.V 3 rfl rfl) (li_cons (hp.V 7 rfl rfl) rfl)))) (by kernel_rfl)) rfl) ?_
  refine .on rfl (fun a w hS hI hp => does_var (x_alloc rfl (by kernel_rfl)) (hI.2.2).size) ?_
  exact .nil
 clear hS
 intro b4 cC hS an hp
 replace hS := (((hS.nil).cons (hS.get 3 rfl)).cons (hS.get 2 rfl)).cons (hS.get 1 rfl)
 have cc : sl _ 57 = (header_Get.v1 (wrap64 (rd l0 0)) (wrap64 (rd l0 4)) 0 0 0 0 0 0 0 0 0 0 0 0 0 0 0 0 0 0 0 0 0) := hp 8 (by decide)
 obtain ⟨ag, cA, ab, bh⟩ := (show IsB _ 28 _ (sl _ 7) _ from hp 9 (by decide))
 have hS := hS.cons cc
 have hS := hS.cons cA
 clear hp cc cA
 show wpList _ _ _ [_] _ _
 refine list_step rfl (does_storeAll (g := ag) (cs := (header_Get.c0 (wrap64 (rd l0 0)) (wrap64 (rd l0 4)) 0 0 0 0 0 0 0 0 0 0 0 0 0 0 0 0 0 0 0 0 0)) rfl (hS.get 0 rfl) (hS.get 1 rfl) (((bR cC).block ag (blk_lt bh)).trans bh) (by kernel_rfl) (by kernel_rfl) (by kernel_rfl)) ?_
 rintro cr bM ⟨rfl, bm, hT⟩
 have aM := hT.below an.1 (Nat.le_trans (ac.1).size ab) (an.1).size
 have bw := hT.below an.2.1 (Nat.le_trans (ac.2.1).size ab) (an.2.1).size
 have a7 := hT.below an.2.2 ab (an.2.2).size
 clear hT
 refine wpList_nil ?_
 refine bH _ _ ?_
 refine wp_seq_k (fun d4 cV => ?_)
 refine reg_seq_tail 6 (I := I4_ w w3 am bM) (ps := [IsV (.slice A0 l0.length al), IsV (.tuple #[.int .i64 ad, .bool aP]), IsV (.tuple #[.int .i64 ad, .bool aP]), VI ad, VB aP, VP ag 2]) (by kernel_rfl) ?_ ?_ rfl hS ⟨aM, bw, a7, (bR bM)⟩ ?_ ?_
 ·exact bs4
 ·exact .v (.v (.v (.v (.v (.v (.nil))))))
 ·refine .ms 4 rfl rfl rfl ?_
  refine .on rfl (fun a w hS hI hp => does_call (by kernel_rfl) (ar3 (hp.V 0 rfl rfl) (rfl) (rfl)) ((octets_Get.calls k _ _ l0 6 2 ad aP _ (Kd.C_below HR0 hI.1) HC0 cL).mono fun _ _ h => ⟨_, h.1, h.2.below, rfl⟩)) ?_
  refine .mv 1 rfl rfl rfl ?_
  iterate 2 refine .on rfl (fun a w hS hI hp => does_val (x_extract rfl (hp.V 2 rfl rfl) rfl) rfl) ?_
  refine .on rfl (fun a w hS hI hp => does_val (x_fieldE (b := 0) rfl (hS.get 0 rfl) Try.underlying28 rfl rfl (by kernel_rfl)) rfl) ?_
  exact .nil
 clear hS
 intro cT ef hS aA hp
 replace hS := ((((hS.nil).cons (hS.get 4 rfl)).cons (hS.get 3 rfl)).cons (hS.get 2 rfl)).cons (hS.get 0 rfl)
 have cd : sl _ 61 = .int .i64 ad := hp 3 (by decide)
 have ce : sl _ 63 = .pointer (some ⟨ag, 2, none⟩) := hp 5 (by decide)
 have hS := hS.cons cd
 have hS := hS.cons ce
 clear hp cd ce
 show wpList _ _ _ [_] _ _
 refine list_step rfl (does_store (g := ag) (off := 2) (v := .int .i64 ad) (new := (header_Get.c0 (wrap64 (rd l0 0)) (wrap64 (rd l0 4)) ad 0 0 0 0 0 0 0 0 0 0 0 0 0 0 0 0 0 0 0 0)) rfl (hS.get 0 rfl) (hS.get 1 rfl) ((aA.2.2.2.block ag (blk_lt bm)).trans bm) (by kernel_rfl) (by kernel_rfl) (by kernel_rfl) (by kernel_rfl)) ?_
 rintro dX cE ⟨rfl, bn, hT⟩
 have bV := hT.below aA.1 (Nat.le_trans (ac.1).size ab) (aA.1).size
 have bx := hT.below aA.2.1 (Nat.le_trans (ac.2.1).size ab) (aA.2.1).size
 have ba := hT.below aA.2.2.1 ab (aA.2.2.1).size
 clear hT
 refine wpList_nil ?_
 refine cV _ _ ?_
 refine wp_seq_k (fun d5 cW => ?_)
 refine reg_seq_tail 6 (I := I4_ w w3 am cE) (ps := [IsV (.slice A0 l0.length al), IsV (.tuple #[.int .i64 af, .bool aQ]), IsV (.tuple #[.int .i64 af, .bool aQ]), VI af, VB aQ, VP ag 3]) (by kernel_rfl) ?_ ?_ rfl hS ⟨bV, bx, ba, (bR cE)⟩ ?_ ?_
 ·exact bs4
 ·exact .v (.v (.v (.v (.v (.v (.nil))))))
 ·refine .ms 5 rfl rfl rfl ?_
  refine .on rfl (fun a w hS hI hp => does_call (by kernel_rfl) (ar3 (hp.V 0 rfl rfl) (rfl) (rfl)) ((octets_Signed.calls k _ _ l0 8 8 af aQ _ (Kd.C_below HR0 hI.1) HC0 cM).mono fun _ _ h => ⟨_, h.1, h.2.below, rfl⟩)) ?_
  refine .mv 1 rfl rfl rfl ?_
  iterate 2 refine .on rfl (fun a w hS hI hp => does_val (x_extract rfl (hp.V 2 rfl rfl) rfl) rfl) ?_
  refine .on rfl (fun a w hS hI hp => does_val (x_fieldE (b := 0) rfl (hS.get 2 rfl) Try.underlying28 rfl rfl (by kernel_rfl)) rfl) ?_
  exact .nil
 clear hS
 intro dO eg hS aB hp
 replace hS := ((((hS.nil).cons (hS.get 5 rfl)).cons (hS.get 4 rfl)).cons (hS.get 3 rfl)).cons (hS.get 2 rfl)
 have cf : sl _ 67 = .int .i64 af := hp 3 (by decide)
 have cg : sl _ 69 = .pointer (some ⟨ag, 3, none⟩) := hp 5 (by decide)
 have hS := hS.cons cf
 have hS := hS.cons cg
 clear hp cf cg
 show wpList _ _ _ [_] _ _
 refine list_step rfl (does_store (g := ag) (off := 3) (v := .int .i64 af) (new := (header_Get.c0 (wrap64 (rd l0 0)) (wrap64 (rd l0 4)) ad af 0 0 0 0 0 0 0 0 0 0 0 0 0 0 0 0 0 0 0)) rfl (hS.get 0 rfl) (hS.get 1 rfl) ((aB.2.2.2.block ag (blk_lt bn)).trans bn) (by kernel_rfl) (by kernel_rfl) (by kernel_rfl) (by kernel_rfl)) ?_
 rintro dY cF ⟨rfl, bo, hT⟩
 have bW := hT.below aB.1 (Nat.le_trans (ac.1).size ab) (aB.1).size
 have bz := hT.below aB.2.1 (Nat.le_trans (ac.2.1).size ab) (aB.2.1).size
 have bb := hT.below aB.2.2.1 ab (aB.2.2.1).size
 clear hT
 refine wpList_nil ?_
 refine cW _ _ ?_
 refine wp_seq_k (fun d6 cX => ?_)
 refine reg_seq_tail 6 (I := I4_ w w3 am cF) (ps := [IsV (.slice A0 l0.length al), IsV (.tuple #[.agg #[.int .u64 ah, .int .i64 ai], .bool aR]), IsV (.tuple #[.agg #[.int .u64 ah, .int .i64 ai], .bool aR]), IsV (.agg #[.int .u64 ah, .int .i64 ai]), VB aR, VP ag 4]) (by kernel_rfl) ?_ ?_ rfl hS ⟨bW, bz, bb, (bR cF)⟩ ?_ ?_
 ·exact bs4
 ·exact .v (.v (.v (.v (.v (.v (.nil))))))
 ·refine .ms 5 rfl rfl rfl ?_
  refine .on rfl (fun a w hS hI hp => does_call (by kernel_rfl) (ar2 (hp.V 0 rfl rfl) (rfl)) ((ident_Get.calls k _ _ l0 20 ah ai aR _ (Kd.C_below HR0 hI.1) HC0 cN).mono fun _ _ h => ⟨_, h.1, h.2, rfl⟩)) ?_
  refine .mv 1 rfl rfl rfl ?_
  iterate 2 refine .on rfl (fun a w hS hI hp => does_val (x_extract rfl (hp.V 2 rfl rfl) rfl) rfl) ?_
  refine .on rfl (fun a w hS hI hp => does_val (x_fieldE (b := 0) rfl (hS.get 2 rfl) Try.underlying28 rfl rfl (by kernel_rfl)) rfl) ?_
  exact .nil
 clear hS
 intro dP eh hS aC hp
 replace hS := ((((hS.nil).cons (hS.get 5 rfl)).cons (hS.get 4 rfl)).cons (hS.get 3 rfl)).cons (hS.get 2 rfl)
 have ch : sl _ 73 = .agg #[.int .u64 ah, .int .i64 ai] := hp 3 (by decide)
 have ci : sl _ 75 = .pointer (some ⟨ag, 4, none⟩) := hp 5 (by decide)
 have hS := hS.cons ch
 have hS := hS.cons ci
 clear hp ch ci
 show wpList _ _ _ [_] _ _
 refine list_step rfl (does_store (g := ag) (off := 4) (v := .agg #[.int .u64 ah, .int .i64 ai]) (new := (header_Get.c0 (wrap64 (rd l0 0)) (wrap64 (rd l0 4)) ad af ah ai 0 0 0 0 0 0 0 0 0 0 0 0 0 0 0 0 0)) rfl (hS.get 0 rfl) (hS.get 1 rfl) ((aC.2.2.2.block ag (blk_lt bo)).trans bo) (by kernel_rfl) (by kernel_rfl) (by kernel_rfl) (by kernel_rfl)) ?_
 rintro dZ cG ⟨rfl, bp, hT⟩
 have bX := hT.below aC.1 (Nat.le_trans (ac.1).size ab) (aC.1).size
 have bA := hT.below aC.2.1 (Nat.le_trans (ac.2.1).size ab) (aC.2.1).size
 have bc := hT.below aC.2.2.1 ab (aC.2.2.1).size
 clear hT
 refine wpList_nil ?_
 refine cX _ _ ?_
 refine wp_seq_k (fun d7 cY => ?_)
 refine reg_seq_tail 6 (I := I4_ w w3 am cG) (ps := [IsV (.slice A0 l0.length al), IsV (.tuple #[.int .i64 aj, .bool aS]), IsV (.tuple #[.int .i64 aj, .bool aS]), VI aj, VB aS, VP ag 6]) (by kernel_rfl) ?_ ?_ rfl hS ⟨bX, bA, bc, (bR cG)⟩ ?_ ?_
 ·exact bs4
 ·exact .v (.v (.v (.v (.v (.v (.nil))))))
 ·refine .ms 5 rfl rfl rfl ?_
  refine .on rfl (fun a w hS hI hp => does_call (by kernel_rfl) (ar3 (hp.V 0 rfl rfl) (rfl) (rfl)) ((octets_Get.calls k _ _ l0 30 2 aj aS _ (Kd.C_below HR0 hI.1) HC0 cO).mono fun _ _ h => ⟨_, h.1, h.2.below, rfl⟩)) ?_
  refine .mv 1 rfl rfl rfl ?_
  iterate 2 refine .on rfl (fun a w hS hI hp => does_val (x_extract rfl (hp.V 2 rfl rfl) rfl) rfl) ?_
  refine .on rfl (fun a w hS hI hp => does_val (x_fieldE (b := 0) rfl (hS.get 2 rfl) Try.underlying28 rfl rfl (by kernel_rfl)) rfl) ?_
  exact .nil
 clear hS
 intro dQ ei hS aD hp
 replace hS := ((((hS.nil).cons (hS.get 5 rfl)).cons (hS.get 4 rfl)).cons (hS.get 3 rfl)).cons (hS.get 2 rfl)
 have cj : sl _ 79 = .int .i64 aj := hp 3 (by decide)
 have ck : sl _ 81 = .pointer (some ⟨ag, 6, none⟩) := hp 5 (by decide)
 have hS := hS.cons cj
 have hS := hS.cons ck
 clear hp cj ck
 show wpList _ _ _ [_] _ _
 refine list_step rfl (does_store (g := ag) (off := 6) (v := .int .i64 aj) (new := (header_Get.c0 (wrap64 (rd l0 0)) (wrap64 (rd l0 4)) ad af ah ai aj 0 0 0 0 0 0 0 0 0 0 0 0 0 0 0 0)) rfl (hS.get 0 rfl) (hS.get 1 rfl) ((aD.2.2.2.block ag (blk_lt bp)).trans bp) (by kernel_rfl) (by kernel_rfl) (by kernel_rfl) (by kernel_rfl)) ?_
 rintro d0 cH ⟨rfl, bq, hT⟩
 have bY := hT.below aD.1 (Nat.le_trans (ac.1).size ab) (aD.1).size
 have bB := hT.below aD.2.1 (Nat.le_trans (ac.2.1).size ab) (aD.2.1).size
 have bd := hT.below aD.2.2.1 ab (aD.2.2.1).size
 clear hT
 refine wpList_nil ?_
 refine cY _ _ ?_
 refine wp_seq_k (fun d8 cZ => ?_)
 refine reg_seq_tail 6 (I := I4_ w w3 am cH) (ps := [IsV (.slice A0 l0.length al), IsV (.tuple #[.int .i64 ak, .bool aT]), IsV (.tuple #[.int .i64 ak, .bool aT]), VI ak, VB aT, VP ag 7]) (by kernel_rfl) ?_ ?_ rfl hS ⟨bY, bB, bd, (bR cH)⟩ ?_ ?_
 ·exact bs4
 ·exact .v (.v (.v (.v (.v (.v (.nil))))))
 ·refine .ms 5 rfl rfl rfl ?_
  refine .on rfl (fun a w hS hI hp => does_call (by kernel_rfl) (ar3 (hp.V 0 rfl rfl) (rfl) (rfl)) ((octets_Signed.calls k _ _ l0 33 1 ak aT _ (Kd.C_below HR0 hI.1) HC0 cP).mono fun _ _ h => ⟨_, h.1, h.2.below, rfl⟩)) ?_
  refine .mv 1 rfl rfl rfl ?_
  iterate 2 refine .on rfl (fun a w hS hI hp => does_val (x_extract rfl (hp.V 2 rfl rfl) rfl) rfl) ?_
  refine .on rfl (fun a w hS hI hp => does_val (x_fieldE (b := 0) rfl (hS.get 2 rfl) Try.underlying28 rfl rfl (by kernel_rfl)) rfl) ?_
  exact .nil
 clear hS
 intro dR ej hS aE hp
 replace hS := (((hS.nil).cons (hS.get 4 rfl)).cons (hS.get 3 rfl)).cons (hS.get 2 rfl)
 have cl : sl _ 85 = .int .i64 ak := hp 3 (by decide)
 have cm : sl _ 87 = .pointer (some ⟨ag, 7, none⟩) := hp 5 (by decide)
 have hS := hS.cons cl
 have hS := hS.cons cm
 clear hp cl cm
 show wpList _ _ _ [_] _ _
 refine list_step rfl (does_store (g := ag) (off := 7) (v := .int .i64 ak) (new := (header_Get.c0 (wrap64 (rd l0 0)) (wrap64 (rd l0 4)) ad af ah ai aj ak 0 0 0 0 0 0 0 0 0 0 0 0 0 0 0)) rfl (hS.get 0 rfl) (hS.get 1 rfl) ((aE.2.2.2.block ag (blk_lt bq)).trans bq) (by kernel_rfl) (by kernel_rfl) (by kernel_rfl) (by kernel_rfl)) ?_
 rintro d1 cI ⟨rfl, aF, hT⟩
 have bZ := hT.below aE.1 (Nat.le_trans (ac.1).size ab) (aE.1).size
 have bC := hT.below aE.2.1 (Nat.le_trans (ac.2.1).size ab) (aE.2.1).size
 have be := hT.below aE.2.2.1 ab (aE.2.2.1).size
 clear hT
 refine wpList_nil ?_
 refine cZ _ _ ?_
 refine wp_seq_k (fun d9 da => ?_)
 refine reg_seq_tail 2 (I := I4_ w w3 am cI) (ps := [IsV ((header_Get.v1 (wrap64 (rd l0 0)) (wrap64 (rd l0 4)) ad af ah ai aj ak 0 0 0 0 0 0 0 0 0 0 0 0 0 0 0)), VI aa]) (by kernel_rfl) ?_ ?_ rfl hS ⟨bZ, bC, be, (bR cI)⟩ ?_ ?_
 ·exact bs4
 ·exact .v (.v (.nil))
 ·refine .on rfl (fun a w hS hI hp => does_loadrow rfl (hS.get 2 rfl) (((hI.2.2.2).block ag (blk_lt aF)).trans aF) Try.underlying28 rfl (by kernel_rfl) rfl) ?_
  refine .ms 3 rfl rfl rfl ?_
  exact .nil
 clear hS
 intro dS ek hS aY hp
 replace hS := (hS.nil).cons (hS.get 4 rfl)
 have cn : sl _ 88 = (header_Get.v1 (wrap64 (rd l0 0)) (wrap64 (rd l0 4)) ad af ah ai aj ak 0 0 0 0 0 0 0 0 0 0 0 0 0 0 0) := hp 0 (by decide)
 have co : sl _ 89 = .int .i64 aa := hp 1 (by decide)
 have hS := hS.cons cn
 have hS := hS.cons co
 clear hp cn co
 show wpList _ _ _ [_, _, _] _ _
 refine list_step rfl (does_storeAll (g := g4) (cs := (header_Get.c0 (wrap64 (rd l0 0)) (wrap64 (rd l0 4)) ad af ah ai aj ak 0 0 0 0 0 0 0 0 0 0 0 0 0 0 0)) rfl (hS.get 2 rfl) (hS.get 1 rfl) ((aY.2.1.block g4 (blk_lt ae)).trans ae) (by kernel_rfl) (by kernel_rfl) (by kernel_rfl)) ?_
 rintro d2 dE ⟨rfl, br, hT⟩
 have dV := hT.blk ((aY.2.2.2.block ag (blk_lt aF)).trans aF) (Nat.ne_of_gt (Nat.lt_of_lt_of_le (Nat.lt_of_lt_of_le (blk_lt ae) (ac.2.1).size) ab))
 have b0 := hT.below aY.1 aq (aY.1).size
 clear hT
 refine list_step rfl (R := fun v w' => Below _ _ w' ∧ (VI aa) v w') (does_val (x_assign rfl (hS.get 0 rfl)) rfl) ?_
 rintro dh dF ⟨hb, he⟩
 have b1 := below_step b0 hb
 have bf := below_step (bR dE) hb
 obtain rfl : dh = .int .i64 aa := he
 refine hS.next (v := .int .i64 aa) (d := 3) rfl (by decide) (by rfl) ?_
 clear hS
 intro dT hS
 refine list_step rfl (R := fun v w' => Below _ _ w' ∧ (VI 0) v w') (does_val (x_assign rfl (rfl)) rfl) ?_
 rintro di el ⟨hb, he⟩
 have b2 := below_step b1 hb
 have bg := below_step bf hb
 have cx := below_step (bR dF) hb
 obtain rfl : di = .int .i64 0 := he
 refine hS.next (v := .int .i64 0) (d := 4) rfl (by decide) (by rfl) ?_
 clear hS
 intro dU hS
 refine wpList_nil ?_
 refine da _ _ ?_
 refine wp_ret ?_
 (try simp only [Exit.then, Exit.inBlock, Exit.jump, Exit.noGoto])
 exact bodyPost_ret (v := .tuple #[(header_Get.v1 (wrap64 (rd l0 0)) (wrap64 (rd l0 4)) ad af ah ai aj ak 0 0 0 0 0 0 0 0 0 0 0 0 0 0 0), .int .i64 aa, .int .i64 0]) (results_list (rs := [.cell 2 28, .tmp 3, .tmp 4]) rfl (by simp) (Vals.cell g4 28 (header_Get.c0 (wrap64 (rd l0 0)) (wrap64 (rd l0 4)) ad af ah ai aj ak 0 0 0 0 0 0 0 0 0 0 0 0 0 0 0) (0, 0) _ (hS.get 4 rfl) ((bg.block g4 (blk_lt br)).trans br) Try.underlying28 rfl (by kernel_rfl) (Vals.at (hS.get 1 rfl) (Vals.at (hS.get 0 rfl) .nil)))) hS.nodef ⟨rfl, b2⟩
mutual
def body_Len.j0 : Nat → Int → Bool → Option (Int)
  | 0, _, _ => none
  | k + 1, x3, x4 => if x4 = true then (some 10) else (if x3 = 2 then (body_Len.j1 k x3 (x3 == 2)) else (if x3 = 3 then (body_Len.j1 k x3 (x3 == 3)) else (if x3 = 10 then (body_Len.j1 k x3 (x3 == 10)) else (body_Len.j1 k x3 (x3 == 9)))))
def body_Len.j1 : Nat → Int → Bool → Option (Int)
  | 0, _, _ => none
  | k + 1, x3, x9 => if x9 = true then (some 20) else (if x3 = 11 then (some 30) else (if x3 = 13 then (some 14) else (some 0)))
end
def body_Len.f (k : Nat) (a0 : Int) : Option (Int) := if a0 = 0 then (body_Len.j0 k a0 (a0 == 0)) else (if a0 = 1 then (body_Len.j0 k a0 (a0 == 1)) else (if a0 = 8 then (body_Len.j0 k a0 (a0 == 8)) else (body_Len.j0 k a0 (a0 == 12))))
set_option maxHeartbeats 8000000 in
set_option maxRecDepth 100000 in
theorem body_Len.calls (k : Nat) (a0 : Int) (r : Int) (w : World) (h : body_Len.f k a0 = some r) :
    Calls Try.prog 63 #[.int .i64 a0] w fun e w' => e = .returned (.int .i64 r) ∧ Drawn0 w w' := by
  have H : (if a0 = 0 then (body_Len.j0 k a0 (a0 == 0)) else (if a0 = 1 then (body_Len.j0 k a0 (a0 == 1)) else (if a0 = 8 then (body_Len.j0 k a0 (a0 == 8)) else (body_Len.j0 k a0 (a0 == 12))))) = some r := h
  clear h
  have HC2 := Aside0.mk H
  clear H
  go_enter Try.func63, Try.ntmps63
  go_upto_if 4 with (fail)
  go_cut [4] (fun v4 wc => ∃ (kq : Nat) (x4_1 : Bool), v4 = .bool x4_1 ∧ Aside0 (body_Len.j0 kq a0 x4_1 = some r) ∧ Aside0 (kq ≤ k) ∧ Drawn0 w wc)
  case first =>
    have H := HC2.out
    clear HC2
    by_cases c3 : a0 = 0
    · rw [if_pos c3] at H
      have c3b0 : (a0 == 0) = true := beq_iff_eq.mpr c3
      have c3b1 : (a0 != 0) = false := bne_eq_false_iff_eq.mpr c3
      clear c3
      (first | rw [c3b0] | (simp only [i64_w, i32_w]; rw [c3b0]) | skip)
      have H' := Aside0.mk H
      clear H
      go_wp2
      go_meet
      case rel => exact ⟨_, ((a0 == 0)), (by first | rfl | (simp; done) | (simp [*]; done)), H', ⟨by first | omega | exact Nat.le_refl _⟩, by repeat (first | exact Drawn0.refl _ | apply Drawn0.step)⟩
    · rw [if_neg c3] at H
      have c3b0 : (a0 == 0) = false := beq_eq_false_iff_ne.mpr c3
      have c3b1 : (a0 != 0) = true := bne_iff_ne.mpr c3
      (first | rw [c3b0] | (simp only [i64_w, i32_w]; rw [c3b0]) | skip)
      by_cases c4 : a0 = 1
      · rw [if_pos c4] at H
        have c4b0 : (a0 == 1) = true := beq_iff_eq.mpr c4
        have c4b1 : (a0 != 1) = false := bne_eq_false_iff_eq.mpr c4
        clear c4
        have H' := Aside0.mk H
        clear H
        go_wp2
        go_meet
        case rel => exact ⟨_, ((a0 == 1)), (by first | rfl | (simp; done) | (simp [*]; done)), H', ⟨by first | omega | exact Nat.le_refl _⟩, by repeat (first | exact Drawn0.refl _ | apply Drawn0.step)⟩
      · rw [if_neg c4] at H
        have c4b0 : (a0 == 1) = false := beq_eq_false_iff_ne.mpr c4
        have c4b1 : (a0 != 1) = true := bne_iff_ne.mpr c4
        by_cases c5 : a0 = 8
        · rw [if_pos c5] at H
          have c5b0 : (a0 == 8) = true := beq_iff_eq.mpr c5
          have c5b1 : (a0 != 8) = false := bne_eq_false_iff_eq.mpr c5
          clear c5
          have H' := Aside0.mk H
          clear H
          go_wp2
          go_meet
          case rel => exact ⟨_, ((a0 == 8)), (by first | rfl | (simp; done) | (simp [*]; done)), H', ⟨by first | omega | exact Nat.le_refl _⟩, by repeat (first | exact Drawn0.refl _ | apply Drawn0.step)⟩
        · rw [if_neg c5] at H
          have c5b0 : (a0 == 8) = false := beq_eq_false_iff_ne.mpr c5
          have c5b1 : (a0 != 8) = true := bne_iff_ne.mpr c5
          have H' := Aside0.mk H
          clear H
          go_wp2
          go_meet
          case rel => exact ⟨_, ((a0 == 12)), (by first | rfl | (simp; done) | (simp [*]; done)), H', ⟨by first | omega | exact Nat.le_refl _⟩, by repeat (first | exact Drawn0.refl _ | apply Drawn0.step)⟩
  case rest =>
    clear HC2
    try clear p2
    try clear c3
    try clear c3b0
    try clear c3b1
    try clear c4
    try clear c4b0
    try clear c4b1
    try clear c5
    try clear c5b0
    try clear c5b1
    obtain ⟨kq, x4_1, rfl, HA, HJ1, ⟨mc1, rfl⟩⟩ := hcut
    cases kq with
    | zero => exact absurd HA.out (by simp [body_Len.j0])
    | succ kj1 =>
      have H := HA.out
      clear HA
      simp only [body_Len.j0] at H
      by_cases c6 : x4_1 = true
      · subst c6
        have H1 : (some 10) = some r := by rw [if_pos rfl] at H; exact H
        clear H
        have H := H1
        clear H1
        obtain rfl := Option.some.inj H
        go_wp2
        all_goals
          go_ret
          exact ⟨by first | rfl | (simp; done) | (simp [*]; done), by repeat (first | exact Drawn0.refl _ | apply Drawn0.step)⟩
      · replace c6 := Bool.eq_false_iff.mpr c6
        subst c6
        have H1 : (if a0 = 2 then (body_Len.j1 kj1 a0 (a0 == 2)) else (if a0 = 3 then (body_Len.j1 kj1 a0 (a0 == 3)) else (if a0 = 10 then (body_Len.j1 kj1 a0 (a0 == 10)) else (body_Len.j1 kj1 a0 (a0 == 9))))) = some r := by rw [if_neg (show ¬ (false = true) by decide)] at H; exact H
        clear H
        have H := H1
        clear H1
        have HC7 := Aside0.mk H
        clear H
        go_upto_if 9 with (fail)
        go_cut [9] (fun v9 wc => ∃ (kq : Nat) (x9_6 : Bool), v9 = .bool x9_6 ∧ Aside0 (body_Len.j1 kq a0 x9_6 = some r) ∧ Aside0 (kq ≤ kj1) ∧ Drawn0 w wc)
        case first =>
          have H := HC7.out
          clear HC7
          by_cases c8 : a0 = 2
          · rw [if_pos c8] at H
            have c8b0 : (a0 == 2) = true := beq_iff_eq.mpr c8
            have c8b1 : (a0 != 2) = false := bne_eq_false_iff_eq.mpr c8
            clear c8
            (first | rw [c8b0] | (simp only [i64_w, i32_w]; rw [c8b0]) | skip)
            have H' := Aside0.mk H
            clear H
            go_wp2
            go_meet
            case rel => exact ⟨_, ((a0 == 2)), (by first | rfl | (simp; done) | (simp [*]; done)), H', ⟨by have := HJ1.out; first | omega | exact Nat.le_refl _⟩, by repeat (first | exact Drawn0.refl _ | apply Drawn0.step)⟩
          · rw [if_neg c8] at H
            have c8b0 : (a0 == 2) = false := beq_eq_false_iff_ne.mpr c8
            have c8b1 : (a0 != 2) = true := bne_iff_ne.mpr c8
            (first | rw [c8b0] | (simp only [i64_w, i32_w]; rw [c8b0]) | skip)
            by_cases c9 : a0 = 3
            · rw [if_pos c9] at H
              have c9b0 : (a0 == 3) = true := beq_iff_eq.mpr c9
              have c9b1 : (a0 != 3) = false := bne_eq_false_iff_eq.mpr c9
              clear c9
              have H' := Aside0.mk H
              clear H
              go_wp2
              go_meet
              case rel => exact ⟨_, ((a0 == 3)), (by first | rfl | (simp; done) | (simp [*]; done)), H', ⟨by have := HJ1.out; first | omega | exact Nat.le_refl _⟩, by repeat (first | exact Drawn0.refl _ | apply Drawn0.step)⟩
            · rw [if_neg c9] at H
              have c9b0 : (a0 == 3) = false := beq_eq_false_iff_ne.mpr c9
              have c9b1 : (a0 != 3) = true := bne_iff_ne.mpr c9
              by_cases c10 : a0 = 10
              · rw [if_pos c10] at H
                have c10b0 : (a0 == 10) = true := beq_iff_eq.mpr c10
                have c10b1 : (a0 != 10) = false := bne_eq_false_iff_eq.mpr c10
                clear c10
                have H' := Aside0.mk H
                clear H
                go_wp2
                go_meet
                case rel => exact ⟨_, ((a0 == 10)), (by first | rfl | (simp; done) | (simp [*]; done)), H', ⟨by have := HJ1.out; first | omega | exact Nat.le_refl _⟩, by repeat (first | exact Drawn0.refl _ | apply Drawn0.step)⟩
              · rw [if_neg c10] at H
                have c10b0 : (a0 == 10) = false := beq_eq_false_iff_ne.mpr c10
                have c10b1 : (a0 != 10) = true := bne_iff_ne.mpr c10
                have H' := Aside0.mk H
                clear H
                go_wp2
                go_meet
                case rel => exact ⟨_, ((a0 == 9)), (by first | rfl | (simp; done) | (simp [*]; done)), H', ⟨by have := HJ1.out; first | omega | exact Nat.le_refl _⟩, by repeat (first | exact Drawn0.refl _ | apply Drawn0.step)⟩
        case rest =>
          clear HC7
          try clear c1
          try clear p2
          try clear c3
          try clear c3b0
          try clear c3b1
          try clear c4
          try clear c4b0
          try clear c4b1
          try clear c5
          try clear c5b0
          try clear c5b1
          try clear c6
          try clear c8
          try clear c8b0
          try clear c8b1
          try clear c9
          try clear c9b0
          try clear c9b1
          try clear c10
          try clear c10b0
          try clear c10b1
          try clear p2
          obtain ⟨kq, x9_6, rfl, HA, HJ6, ⟨mc6, rfl⟩⟩ := hcut
          cases kq with
          | zero => exact absurd HA.out (by simp [body_Len.j1])
          | succ kj6 =>
            have H := HA.out
            clear HA
            simp only [body_Len.j1] at H
            by_cases c11 : x9_6 = true
            · subst c11
              have H1 : (some 20) = some r := by rw [if_pos rfl] at H; exact H
              clear H
              have H := H1
              clear H1
              obtain rfl := Option.some.inj H
              go_wp2
              all_goals
                go_ret
                exact ⟨by first | rfl | (simp; done) | (simp [*]; done), by repeat (first | exact Drawn0.refl _ | apply Drawn0.step)⟩
            · replace c11 := Bool.eq_false_iff.mpr c11
              subst c11
              have H1 : (if a0 = 11 then (some 30) else (if a0 = 13 then (some 14) else (some 0))) = some r := by rw [if_neg (show ¬ (false = true) by decide)] at H; exact H
              clear H
              have H := H1
              clear H1
              by_cases c12 : a0 = 11
              · rw [if_pos c12] at H
                have c12b0 : (a0 == 11) = true := beq_iff_eq.mpr c12
                have c12b1 : (a0 != 11) = false := bne_eq_false_iff_eq.mpr c12
                clear c12
                obtain rfl := Option.some.inj H
                go_wp2
                all_goals
                  go_ret
                  exact ⟨by first | rfl | (simp; done) | (simp [*]; done), by repeat (first | exact Drawn0.refl _ | apply Drawn0.step)⟩
              · rw [if_neg c12] at H
                have c12b0 : (a0 == 11) = false := beq_eq_false_iff_ne.mpr c12
                have c12b1 : (a0 != 11) = true := bne_iff_ne.mpr c12
                by_cases c13 : a0 = 13
                · rw [if_pos c13] at H
                  have c13b0 : (a0 == 13) = true := beq_iff_eq.mpr c13
                  have c13b1 : (a0 != 13) = false := bne_eq_false_iff_eq.mpr c13
                  clear c13
                  obtain rfl := Option.some.inj H
                  go_wp2
                  all_goals
                    go_ret
                    exact ⟨by first | rfl | (simp; done) | (simp [*]; done), by repeat (first | exact Drawn0.refl _ | apply Drawn0.step)⟩
                · rw [if_neg c13] at H
                  have c13b0 : (a0 == 13) = false := beq_eq_false_iff_ne.mpr c13
                  have c13b1 : (a0 != 13) = true := bne_iff_ne.mpr c13
                  obtain rfl := Option.some.inj H
                  go_wp2
                  all_goals
                    go_ret
                    exact ⟨by first | rfl | (simp; done) | (simp [*]; done), by repeat (first | exact Drawn0.refl _ | apply Drawn0.step)⟩
def stamp_Get.j0 : Nat → List Int → Int → Bool → Option (Int × Bool)
  | 0, _, _, _ => none
  | k + 1, x0, x1, x24 => if x24 = true then (some (0, false)) else ((octets_Get.f k x0 x1 6).bind fun bt152 => ((octets_Get.f k x0 (wrap64 (x1 + 6)) 4).bind fun bt154 => (if bt154.1 ≥ 1000000000 then (some (0, false)) else (if bt152.1 > 4000000 then (some (0, false)) else ((stamp_May.f (wrap64 ((wrap64 (bt152.1 * 1000000000)) + bt154.1))).bind fun t156 => (if t156 = true then (some (wrap64 ((wrap64 (bt152.1 * 1000000000)) + bt154.1), true)) else (some (0, false))))))))
def stamp_Get.f (k : Nat) (l0 : List Int) (a1 : Int) : Option (Int × Bool) := if a1 < 0 then (stamp_Get.j0 k l0 a1 true) else (if a1 > (l0.length : Int) then (stamp_Get.j0 k l0 a1 true) else (stamp_Get.j0 k l0 a1 (decide ((wrap64 ((l0.length : Int) - a1)) < 10))))
set_option maxHeartbeats 8000000 in
set_option maxRecDepth 100000 in
theorem stamp_Get.calls (k : Nat) (A0 : Option Addr) (c0 : Nat) (l0 : List Int) (a1 : Int) (r1 : Int) (r2 : Bool) (w : World) (hr0 : Kd.C (Kd.int .u8) w A0 l0.length l0) (hc0 : l0.length ≤ c0) (h : stamp_Get.f k l0 a1 = some (r1, r2)) :
    Calls Try.prog 64 #[.slice A0 l0.length c0, .int .i64 a1] w fun e w' => e = .returned (.tuple #[.int .i64 r1, .bool r2]) ∧ Drawn0 w w' := by
  have HR0 := Aside0.mk hr0
  have HC0 := Aside0.mk hc0
  clear hr0 hc0
  have H : (if a1 < 0 then (stamp_Get.j0 k l0 a1 true) else (if a1 > (l0.length : Int) then (stamp_Get.j0 k l0 a1 true) else (stamp_Get.j0 k l0 a1 (decide ((wrap64 ((l0.length : Int) - a1)) < 10))))) = some (r1, r2) := h
  clear h
  have HC3 := Aside0.mk H
  clear H
  go_enter Try.func64, Try.ntmps64
  go_upto_region 1 with (fail)
  go_cut [24] (fun v24 wc => ∃ (kq : Nat) (x24_2 : Bool), v24 = .bool x24_2 ∧ Aside0 (stamp_Get.j0 kq l0 a1 x24_2 = some (r1, r2)) ∧ Aside0 (kq ≤ k) ∧ Drawn0 w wc)
  case first =>
    have H := HC3.out
    clear HC3
    by_cases c4 : a1 < 0
    · rw [if_pos c4] at H
      have c4b0 : decide (a1 < 0) = true := decide_eq_true c4
      clear c4
      (first | rw [c4b0] | (simp only [i64_w, i32_w]; rw [c4b0]) | skip)
      have H' := Aside0.mk H
      clear H
      go_wp2
      go_meet
      case rel => exact ⟨_, (true), (by first | rfl | (simp; done) | (simp [*]; done)), H', ⟨by first | omega | exact Nat.le_refl _⟩, by repeat (first | exact Drawn0.refl _ | apply Drawn0.step)⟩
    · rw [if_neg c4] at H
      have c4b0 : decide (a1 < 0) = false := decide_eq_false c4
      clear c4
      (first | rw [c4b0] | (simp only [i64_w, i32_w]; rw [c4b0]) | skip)
      by_cases c5 : a1 > (l0.length : Int)
      · rw [if_pos c5] at H
        have c5b0 : decide ((l0.length : Int) < a1) = true := decide_eq_true c5
        clear c5
        have H' := Aside0.mk H
        clear H
        go_wp2
        go_meet
        case rel => exact ⟨_, (true), (by first | rfl | (simp; done) | (simp [*]; done)), H', ⟨by first | omega | exact Nat.le_refl _⟩, by repeat (first | exact Drawn0.refl _ | apply Drawn0.step)⟩
      · rw [if_neg c5] at H
        have c5b0 : decide ((l0.length : Int) < a1) = false := decide_eq_false c5
        clear c5
        have H' := Aside0.mk H
        clear H
        go_wp2
        go_meet
        case rel => exact ⟨_, (decide ((wrap64 ((l0.length : Int) - a1)) < 10)), (by first | rfl | (simp; done) | (simp [*]; done)), H', ⟨by first | omega | exact Nat.le_refl _⟩, by repeat (first | exact Drawn0.refl _ | apply Drawn0.step)⟩
  case rest =>
    clear HC3
    try clear p2
    try clear c4
    try clear c4b0
    try clear c5
    try clear c5b0
    obtain ⟨kq, x24_2, rfl, HA, HJ2, ⟨mc2, rfl⟩⟩ := hcut
    cases kq with
    | zero => exact absurd HA.out (by simp [stamp_Get.j0])
    | succ kj2 =>
      have H := HA.out
      clear HA
      simp only [stamp_Get.j0] at H
      by_cases c6 : x24_2 = true
      · subst c6
        have H1 : (some (0, false)) = some (r1, r2) := by rw [if_pos rfl] at H; exact H
        clear H
        have H := H1
        clear H1
        simp only [Option.some.injEq, Prod.mk.injEq] at H
        obtain ⟨rfl, rfl⟩ := H
        go_wp2
        go_ret2
        exact ⟨by first | rfl | (simp; done) | (simp [*]; done), by repeat (first | exact Drawn0.refl _ | apply Drawn0.step)⟩
      · replace c6 := Bool.eq_false_iff.mpr c6
        subst c6
        have H1 : ((octets_Get.f kj2 l0 a1 6).bind fun bt152 => ((octets_Get.f kj2 l0 (wrap64 (a1 + 6)) 4).bind fun bt154 => (if bt154.1 ≥ 1000000000 then (some (0, false)) else (if bt152.1 > 4000000 then (some (0, false)) else ((stamp_May.f (wrap64 ((wrap64 (bt152.1 * 1000000000)) + bt154.1))).bind fun t156 => (if t156 = true then (some (wrap64 ((wrap64 (bt152.1 * 1000000000)) + bt154.1), true)) else (some (0, false)))))))) = some (r1, r2) := by rw [if_neg (show ¬ (false = true) by decide)] at H; exact H
        clear H
        have H := H1
        clear H1
        replace H := Option.bind_eq_some_iff.mp H
        obtain ⟨⟨t152, t153⟩, A70, H⟩ := H
        replace H : ((octets_Get.f kj2 l0 (wrap64 (a1 + 6)) 4).bind fun bt154 => (if bt154.1 ≥ 1000000000 then (some (0, false)) else (if t152 > 4000000 then (some (0, false)) else ((stamp_May.f (wrap64 ((wrap64 (t152 * 1000000000)) + bt154.1))).bind fun t156 => (if t156 = true then (some (wrap64 ((wrap64 (t152 * 1000000000)) + bt154.1), true)) else (some (0, false))))))) = some (r1, r2) := H
        have A7 := Aside0.mk A70
        clear A70
        replace H := Option.bind_eq_some_iff.mp H
        obtain ⟨⟨t154, t155⟩, A80, H⟩ := H
        replace H : (if t154 ≥ 1000000000 then (some (0, false)) else (if t152 > 4000000 then (some (0, false)) else ((stamp_May.f (wrap64 ((wrap64 (t152 * 1000000000)) + t154))).bind fun t156 => (if t156 = true then (some (wrap64 ((wrap64 (t152 * 1000000000)) + t154), true)) else (some (0, false)))))) = some (r1, r2) := H
        have A8 := Aside0.mk A80
        clear A80
        by_cases c9 : t154 ≥ 1000000000
        · rw [if_pos c9] at H
          have c9b0 : decide (1000000000 ≤ t154) = true := decide_eq_true c9
          clear c9
          simp only [Option.some.injEq, Prod.mk.injEq] at H
          obtain ⟨rfl, rfl⟩ := H
          go_wp2_with (first | ((with_reducible refine gate_callee (f := 59) rfl ?_); refine goesL_ (some 28) rfl rfl Try.func59 (by kernel_rfl) rfl #[.slice A0 l0.length c0, .int .i64 a1, .int .i64 6] rfl (by (try simp only [List.map_toArray, List.map_cons, List.map_nil]); first | done | rfl | (simp only [List.length_drop, List.length_take]; rfl)) ?_; (with_reducible refine (octets_Get.calls kj2 _ _ l0 a1 6 t152 t153 _ ?side1 ?side2 A7.out).mono ?_); (case side1 => repeat (first | exact HR0.out | (with_reducible refine Kd.C_alloc ?_ _) | (with_reducible refine Kd.C_drewN ?_ _) | (with_reducible refine Kd.C_drew ?_))); (case side2 => exact HC0.out); rintro e w' ⟨rfl, ⟨nd, rfl⟩⟩; refine ⟨_, rfl, ?_⟩) | ((with_reducible refine gate_callee (f := 59) rfl ?_); refine goesL_ (some 35) rfl rfl Try.func59 (by kernel_rfl) rfl #[.slice A0 l0.length c0, .int .i64 (wrap64 (a1 + 6)), .int .i64 4] rfl (by (try simp only [List.map_toArray, List.map_cons, List.map_nil]); first | done | rfl | (simp only [List.length_drop, List.length_take]; rfl)) ?_; (with_reducible refine (octets_Get.calls kj2 _ _ l0 (wrap64 (a1 + 6)) 4 t154 t155 _ ?side1 ?side2 A8.out).mono ?_); (case side1 => repeat (first | exact HR0.out | (with_reducible refine Kd.C_alloc ?_ _) | (with_reducible refine Kd.C_drewN ?_ _) | (with_reducible refine Kd.C_drew ?_))); (case side2 => exact HC0.out); rintro e w' ⟨rfl, ⟨nd, rfl⟩⟩; refine ⟨_, rfl, ?_⟩))
          go_ret2
          exact ⟨by first | rfl | (simp; done) | (simp [*]; done), by repeat (first | exact Drawn0.refl _ | apply Drawn0.step)⟩
        · rw [if_neg c9] at H
          have c9b0 : decide (1000000000 ≤ t154) = false := decide_eq_false c9
          clear c9
          by_cases c10 : t152 > 4000000
          · rw [if_pos c10] at H
            have c10b0 : decide (4000000 < t152) = true := decide_eq_true c10
            clear c10
            simp only [Option.some.injEq, Prod.mk.injEq] at H
            obtain ⟨rfl, rfl⟩ := H
            go_wp2_with (first | ((with_reducible refine gate_callee (f := 59) rfl ?_); refine goesL_ (some 28) rfl rfl Try.func59 (by kernel_rfl) rfl #[.slice A0 l0.length c0, .int .i64 a1, .int .i64 6] rfl (by (try simp only [List.map_toArray, List.map_cons, List.map_nil]); first | done | rfl | (simp only [List.length_drop, List.length_take]; rfl)) ?_; (with_reducible refine (octets_Get.calls kj2 _ _ l0 a1 6 t152 t153 _ ?side1 ?side2 A7.out).mono ?_); (case side1 => repeat (first | exact HR0.out | (with_reducible refine Kd.C_alloc ?_ _) | (with_reducible refine Kd.C_drewN ?_ _) | (with_reducible refine Kd.C_drew ?_))); (case side2 => exact HC0.out); rintro e w' ⟨rfl, ⟨nd, rfl⟩⟩; refine ⟨_, rfl, ?_⟩) | ((with_reducible refine gate_callee (f := 59) rfl ?_); refine goesL_ (some 35) rfl rfl Try.func59 (by kernel_rfl) rfl #[.slice A0 l0.length c0, .int .i64 (wrap64 (a1 + 6)), .int .i64 4] rfl (by (try simp only [List.map_toArray, List.map_cons, List.map_nil]); first | done | rfl | (simp only [List.length_drop, List.length_take]; rfl)) ?_; (with_reducible refine (octets_Get.calls kj2 _ _ l0 (wrap64 (a1 + 6)) 4 t154 t155 _ ?side1 ?side2 A8.out).mono ?_); (case side1 => repeat (first | exact HR0.out | (with_reducible refine Kd.C_alloc ?_ _) | (with_reducible refine Kd.C_drewN ?_ _) | (with_reducible refine Kd.C_drew ?_))); (case side2 => exact HC0.out); rintro e w' ⟨rfl, ⟨nd, rfl⟩⟩; refine ⟨_, rfl, ?_⟩))
            go_ret2
            exact ⟨by first | rfl | (simp; done) | (simp [*]; done), by repeat (first | exact Drawn0.refl _ | apply Drawn0.step)⟩
          · rw [if_neg c10] at H
            have c10b0 : decide (4000000 < t152) = false := decide_eq_false c10
            clear c10
            replace H := Option.bind_eq_some_iff.mp H
            obtain ⟨t156, A110, H⟩ := H
            replace H : (if t156 = true then (some (wrap64 ((wrap64 (t152 * 1000000000)) + t154), true)) else (some (0, false))) = some (r1, r2) := H
            have A11 := Aside0.mk A110
            clear A110
            by_cases c12 : t156 = true
            · subst c12
              have H1 : (some (wrap64 ((wrap64 (t152 * 1000000000)) + t154), true)) = some (r1, r2) := by rw [if_pos rfl] at H; exact H
              clear H
              have H := H1
              clear H1
              simp only [Option.some.injEq, Prod.mk.injEq] at H
              obtain ⟨rfl, rfl⟩ := H
              go_wp2_with (first | ((with_reducible refine gate_callee (f := 59) rfl ?_); refine goesL_ (some 28) rfl rfl Try.func59 (by kernel_rfl) rfl #[.slice A0 l0.length c0, .int .i64 a1, .int .i64 6] rfl (by (try simp only [List.map_toArray, List.map_cons, List.map_nil]); first | done | rfl | (simp only [List.length_drop, List.length_take]; rfl)) ?_; (with_reducible refine (octets_Get.calls kj2 _ _ l0 a1 6 t152 t153 _ ?side1 ?side2 A7.out).mono ?_); (case side1 => repeat (first | exact HR0.out | (with_reducible refine Kd.C_alloc ?_ _) | (with_reducible refine Kd.C_drewN ?_ _) | (with_reducible refine Kd.C_drew ?_))); (case side2 => exact HC0.out); rintro e w' ⟨rfl, ⟨nd, rfl⟩⟩; refine ⟨_, rfl, ?_⟩) | ((with_reducible refine gate_callee (f := 59) rfl ?_); refine goesL_ (some 35) rfl rfl Try.func59 (by kernel_rfl) rfl #[.slice A0 l0.length c0, .int .i64 (wrap64 (a1 + 6)), .int .i64 4] rfl (by (try simp only [List.map_toArray, List.map_cons, List.map_nil]); first | done | rfl | (simp only [List.length_drop, List.length_take]; rfl)) ?_; (with_reducible refine (octets_Get.calls kj2 _ _ l0 (wrap64 (a1 + 6)) 4 t154 t155 _ ?side1 ?side2 A8.out).mono ?_); (case side1 => repeat (first | exact HR0.out | (with_reducible refine Kd.C_alloc ?_ _) | (with_reducible refine Kd.C_drewN ?_ _) | (with_reducible refine Kd.C_drew ?_))); (case side2 => exact HC0.out); rintro e w' ⟨rfl, ⟨nd, rfl⟩⟩; refine ⟨_, rfl, ?_⟩) | (go_at_call 75; (with_reducible refine (stamp_May.calls (wrap64 ((wrap64 (t152 * 1000000000)) + t154)) true _ A11.out).mono ?_); rintro e w' ⟨rfl, ⟨nd, rfl⟩⟩))
              go_ret2
              exact ⟨by first | rfl | (simp; done) | (simp [*]; done), by repeat (first | exact Drawn0.refl _ | apply Drawn0.step)⟩
            · replace c12 := Bool.eq_false_iff.mpr c12
              subst c12
              have H1 : (some (0, false)) = some (r1, r2) := by rw [if_neg (show ¬ (false = true) by decide)] at H; exact H
              clear H
              have H := H1
              clear H1
              simp only [Option.some.injEq, Prod.mk.injEq] at H
              obtain ⟨rfl, rfl⟩ := H
              go_wp2_with (first | ((with_reducible refine gate_callee (f := 59) rfl ?_); refine goesL_ (some 28) rfl rfl Try.func59 (by kernel_rfl) rfl #[.slice A0 l0.length c0, .int .i64 a1, .int .i64 6] rfl (by (try simp only [List.map_toArray, List.map_cons, List.map_nil]); first | done | rfl | (simp only [List.length_drop, List.length_take]; rfl)) ?_; (with_reducible refine (octets_Get.calls kj2 _ _ l0 a1 6 t152 t153 _ ?side1 ?side2 A7.out).mono ?_); (case side1 => repeat (first | exact HR0.out | (with_reducible refine Kd.C_alloc ?_ _) | (with_reducible refine Kd.C_drewN ?_ _) | (with_reducible refine Kd.C_drew ?_))); (case side2 => exact HC0.out); rintro e w' ⟨rfl, ⟨nd, rfl⟩⟩; refine ⟨_, rfl, ?_⟩) | ((with_reducible refine gate_callee (f := 59) rfl ?_); refine goesL_ (some 35) rfl rfl Try.func59 (by kernel_rfl) rfl #[.slice A0 l0.length c0, .int .i64 (wrap64 (a1 + 6)), .int .i64 4] rfl (by (try simp only [List.map_toArray, List.map_cons, List.map_nil]); first | done | rfl | (simp only [List.length_drop, List.length_take]; rfl)) ?_; (with_reducible refine (octets_Get.calls kj2 _ _ l0 (wrap64 (a1 + 6)) 4 t154 t155 _ ?side1 ?side2 A8.out).mono ?_); (case side1 => repeat (first | exact HR0.out | (with_reducible refine Kd.C_alloc ?_ _) | (with_reducible refine Kd.C_drewN ?_ _) | (with_reducible refine Kd.C_drew ?_))); (case side2 => exact HC0.out); rintro e w' ⟨rfl, ⟨nd, rfl⟩⟩; refine ⟨_, rfl, ?_⟩) | (go_at_call 75; (with_reducible refine (stamp_May.calls (wrap64 ((wrap64 (t152 * 1000000000)) + t154)) false _ A11.out).mono ?_); rintro e w' ⟨rfl, ⟨nd, rfl⟩⟩))
              go_ret2
              exact ⟨by first | rfl | (simp; done) | (simp [*]; done), by repeat (first | exact Drawn0.refl _ | apply Drawn0.step)⟩
end Go.Proofs.Ytiomlbkakiienaa.P
