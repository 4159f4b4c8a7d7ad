/- Functions and loops of the given program as Lean functions, and that the code comes to what they say: written by this session's own program; Lean checks it. -/
import Derived.Test.YtcflafkafbpibaaPx0
import Derived.Test.YtcflafkafbpibaaPx1
import Derived.Test.YtcflafkafbpibaaPx3
namespace Go.Proofs.Ytcflafkafbpibaa.P
open Go.RowKit Go.Proofs.YtcflafkafbpibaaW.PrintWords Go.Proofs.YtcflafkafbpibaaW.PrintLast Go.Proofs.YtcflafkafbpibaaW.PrintMore
attribute [local go_sem] max2_int min2_int max_two min_two max_three min_three max_four min_four   -- for this text's walks alone
set_option linter.unusedVariables false
set_option linter.unusedSimpArgs false

/-! ### carillonlaw06_awake: function 16 -/
def carillonlaw06_awake.f (k : Nat)  : Option (Bool) := (header_Put.f k 0 0 0 0 0 0 0 0 0 0 0 0 0 0 0 0 0 0 0 0 0 0 0 44).bind fun bt156 => (if bt156.2 = true then (if (bt156.1.length : Int) = 34 then (if 4 ≤ (bt156.1.length : Int) then (if (strOfNums (bt156.1.take 4)).toList = ([0, 18, 0, 44] : List UInt8) then ((header_Known.f k 13).bind fun t164 => (if t164 = true then ((header_Known.f k 4).bind fun t165 => (some (!t165))) else (some false))) else (some false)) else (none)) else (some false)) else (some false))
theorem carillonlaw06_awake.mono : ∀ k, LeO (carillonlaw06_awake.f k ) (carillonlaw06_awake.f (k + 1) ) := by
  intro  k
  unfold carillonlaw06_awake.f
  repeat' first
      | (with_reducible exact header_Known.mono _ _)
      | (with_reducible exact header_Put.mono _ _ _ _ _ _ _ _ _ _ _ _ _ _ _ _ _ _ _ _ _ _ _ _ _)
      | (with_reducible exact LeO.refl _)
      | (with_reducible exact LeO.none _)
      | (with_reducible refine LeO.ite ?_ ?_)
      | (with_reducible refine LeO.bind ?_ (fun _ => ?_))
      | exact header_Known.mono _ _
      | exact header_Put.mono _ _ _ _ _ _ _ _ _ _ _ _ _ _ _ _ _ _ _ _ _ _ _ _ _
      | exact LeO.none _
      | refine LeO.ite ?_ ?_
      | refine LeO.bind ?_ (fun _ => ?_)
set_option maxHeartbeats 8000000 in
set_option maxRecDepth 100000 in
theorem carillonlaw06_awake.calls (k : Nat)  (r : Bool) (w : World) (h : carillonlaw06_awake.f k  = some r) :
    Calls Try.prog 16 #[] w fun e w' => e = .returned (.bool r) ∧ Below w.heap.size w w' := by
  have hu28 := Try.underlying28
  have HB := Aside0.mk (Below.refl w.heap.size w)
  have H : ((header_Put.f k 0 0 0 0 0 0 0 0 0 0 0 0 0 0 0 0 0 0 0 0 0 0 0 44).bind fun bt156 => (if bt156.2 = true then (if (bt156.1.length : Int) = 34 then (if 4 ≤ (bt156.1.length : Int) then (if (strOfNums (bt156.1.take 4)).toList = ([0, 18, 0, 44] : List UInt8) then ((header_Known.f k 13).bind fun t164 => (if t164 = true then ((header_Known.f k 4).bind fun t165 => (some (!t165))) else (some false))) else (some false)) else (none)) else (some false)) else (some false))) = some r := h
  clear h
  replace H := Option.bind_eq_some_iff.mp H
  obtain ⟨⟨t156, t159⟩, A10, H⟩ := H
  replace H : (if t159 = true then (if (t156.length : Int) = 34 then (if 4 ≤ (t156.length : Int) then (if (strOfNums (t156.take 4)).toList = ([0, 18, 0, 44] : List UInt8) then ((header_Known.f k 13).bind fun t164 => (if t164 = true then ((header_Known.f k 4).bind fun t165 => (some (!t165))) else (some false))) else (some false)) else (none)) else (some false)) else (some false)) = some r := H
  have A1 := Aside0.mk A10
  clear A10
  by_cases c2 : t159 = true
  · subst c2
    have H1 : (if (t156.length : Int) = 34 then (if 4 ≤ (t156.length : Int) then (if (strOfNums (t156.take 4)).toList = ([0, 18, 0, 44] : List UInt8) then ((header_Known.f k 13).bind fun t164 => (if t164 = true then ((header_Known.f k 4).bind fun t165 => (some (!t165))) else (some false))) else (some false)) else (none)) else (some false)) = some r := by rw [if_pos rfl] at H; exact H
    clear H
    have H := H1
    clear H1
    by_cases c3 : (t156.length : Int) = 34
    · rw [if_pos c3] at H
      have c3b0 : ((t156.length : Int) == 34) = true := beq_iff_eq.mpr c3
      have c3b1 : ((t156.length : Int) != 34) = false := bne_eq_false_iff_eq.mpr c3
      clear c3
      by_cases c4 : 4 ≤ (t156.length : Int)
      · rw [if_pos c4] at H
        have c4b0 := eq_true c4
        have c4b1 : decide (4 ≤ (t156.length : Int)) = true := decide_eq_true c4
        clear c4
        obtain ⟨y160, hy160⟩ : ∃ y_ : List Int, y_ = (t156.take 4) := ⟨_, rfl⟩
        replace H : (if (strOfNums y160).toList = ([0, 18, 0, 44] : List UInt8) then ((header_Known.f k 13).bind fun t164 => (if t164 = true then ((header_Known.f k 4).bind fun t165 => (some (!t165))) else (some false))) else (some false)) = some r := by first | (rw [hy160]; with_reducible exact H) | (have H2_ := (Option.bind_some _ _).symm.trans H; rw [hy160]; with_reducible exact H2_) | (have H2_ := (Option.bind_some _ _).symm.trans H; with_reducible exact H2_) | with_reducible exact H | (rw [hy160]; exact H) | exact H
        have Ny160 := Aside0.mk hy160
        clear hy160
        by_cases c5 : (strOfNums y160).toList = ([0, 18, 0, 44] : List UInt8)
        · rw [if_pos c5] at H
          have c5b0 : ((strOfNums y160).toList == ([0, 18, 0, 44] : List UInt8)) = true := beq_iff_eq.mpr c5
          have c5b1 : ((strOfNums y160).toList != ([0, 18, 0, 44] : List UInt8)) = false := bne_eq_false_iff_eq.mpr c5
          clear c5
          replace H := Option.bind_eq_some_iff.mp H
          obtain ⟨t164, A60, H⟩ := H
          replace H : (if t164 = true then ((header_Known.f k 4).bind fun t165 => (some (!t165))) else (some false)) = some r := H
          have A6 := Aside0.mk A60
          clear A60
          by_cases c7 : t164 = true
          · subst c7
            have H1 : ((header_Known.f k 4).bind fun t165 => (some (!t165))) = some r := by rw [if_pos rfl] at H; exact H
            clear H
            have H := H1
            clear H1
            replace H := Option.bind_eq_some_iff.mp H
            obtain ⟨t165, A80, H⟩ := H
            replace H : (some (!t165)) = some r := H
            have A8 := Aside0.mk A80
            clear A80
            obtain rfl := Option.some.inj H
            go_enter Try.func16, Try.ntmps16
            go_wp2_with (first | ((with_reducible refine gate_callee (f := 10) rfl ?_); refine goesL_ (some 5) rfl rfl Try.func10 (by kernel_rfl) rfl #[.agg #[.int .i64 0, .int .i64 0, .int .i64 0, .int .i64 0, .int .u64 0, .int .i64 0, .int .i64 0, .int .i64 0, .int .i64 0, .int .u64 0, .int .i64 0, .int .i64 0, .int .i64 0, .int .i64 0, .int .i64 0, .int .i64 0, .int .i64 0, .int .u64 0, .int .i64 0, .int .i64 0, .int .i64 0, .int .i64 0, .int .i64 0], .int .i64 44] rfl (by (try simp only [List.map_toArray, List.map_cons, List.map_nil]); first | done | rfl | (simp only [List.length_drop, List.length_take]; rfl)) ?_; (with_reducible refine (header_Put.calls k 0 0 0 0 0 0 0 0 0 0 0 0 0 0 0 0 0 0 0 0 0 0 0 44 t156 true _ A1.out).mono ?_); rintro e w9 ⟨v157, rfl, ho0, hb⟩; refine ⟨_, rfl, ?_⟩; have n0_ := Aside0.mk (Kd.R_lower ho0 (below_size (by repeat (first | (with_reducible first | exact HB.out | apply below_alloc | apply pw_below_drewN | apply below_drew1) | exact HB.out)))); have n1_ := Aside0.mk (below_step (by repeat (first | (with_reducible first | exact HB.out | apply below_alloc | apply pw_below_drewN | apply below_drew1) | exact HB.out)) hb); clear HB; have HO158 := n0_; have HB := n1_; clear n0_ n1_; (try clear hb); (try clear hb2); (try clear hk); (try clear hi); (try clear ho0); obtain ⟨Ao10, co10, eo10⟩ := Kd.R_slice HO158.out; subst eo10; have q11 : (4 : Int) ≤ ((t156.length : Int) : Int) := of_decide_eq_true (by first | (with_reducible assumption) | assumption); obtain ⟨i011, hi011, _, hsz11, _⟩ := info_parts info5; have hroom11 : t156.length ≤ co10 := (Kd.R_reads' HO158.out).2.1; have hC11 : Kd.C (Kd.int .u8) _ Ao10 t156.length t156 := (Kd.R_reads' HO158.out).2.2; have hcut11 := cut_to (P := Try.prog) 29 5 .i64 Try.underlying29 hi011 Ao10 t156.length co10 4 (by omega) q11 hroom11; have hr11 := Kd.C_take (m := 4) hC11 (by omega); have hy11 : y160.length = (4 : Int).toNat := (by rw [Ny160.out, List.length_take]; omega); rw [← Ny160.out] at hr11; rw [← hy11] at hcut11; have HR163 := Aside0.mk hr11; have HC163 := Aside0.mk (show y160.length ≤ co10 from by omega); clear hr11 hC11 hroom11 hi011 hsz11; have KY11 := Aside0.mk hy11; clear hy11; have KL11 := Aside0.mk (show 4 ≤ t156.length from by omega); replace q11 := eq_true q11; have hcv12 := Kd.C_string (P := Try.prog) (A := Ao10) (c := co10) Try.underlying29 Try.underlying5 Try.underlying9 (by repeat (first | (with_reducible exact HR163.out) | (with_reducible refine Kd.C_alloc ?_ _) | (with_reducible refine Kd.C_drewN ?_ _) | (with_reducible refine Kd.C_drew ?_) | exact HR163.out))) | (go_at_call 14; (with_reducible refine (header_Known.calls k 13 true _ A6.out).mono ?_); rintro e w' ⟨rfl, ⟨nd, rfl⟩⟩) | (go_at_call 14; (with_reducible refine (header_Known.calls k 4 t165 _ A8.out).mono ?_); rintro e w' ⟨rfl, ⟨nd, rfl⟩⟩))
            all_goals
              go_ret
              exact ⟨by first | rfl | (simp [errW_none, errW_some] <;> rfl) | (simp [*, errW_none, errW_some] <;> rfl), by repeat (first | (with_reducible first | exact HB.out | apply below_alloc | apply pw_below_drewN | apply below_drew1) | exact HB.out)⟩
          · replace c7 := Bool.eq_false_iff.mpr c7
            subst c7
            have H1 : (some false) = some r := by rw [if_neg (show ¬ (false = true) by decide)] at H; exact H
            clear H
            have H := H1
            clear H1
            obtain rfl := Option.some.inj H
            go_enter Try.func16, Try.ntmps16
            go_wp2_with (first | ((with_reducible refine gate_callee (f := 10) rfl ?_); refine goesL_ (some 5) rfl rfl Try.func10 (by kernel_rfl) rfl #[.agg #[.int .i64 0, .int .i64 0, .int .i64 0, .int .i64 0, .int .u64 0, .int .i64 0, .int .i64 0, .int .i64 0, .int .i64 0, .int .u64 0, .int .i64 0, .int .i64 0, .int .i64 0, .int .i64 0, .int .i64 0, .int .i64 0, .int .i64 0, .int .u64 0, .int .i64 0, .int .i64 0, .int .i64 0, .int .i64 0, .int .i64 0], .int .i64 44] rfl (by (try simp only [List.map_toArray, List.map_cons, List.map_nil]); first | done | rfl | (simp only [List.length_drop, List.length_take]; rfl)) ?_; (with_reducible refine (header_Put.calls k 0 0 0 0 0 0 0 0 0 0 0 0 0 0 0 0 0 0 0 0 0 0 0 44 t156 true _ A1.out).mono ?_); rintro e w13 ⟨v157, rfl, ho0, hb⟩; refine ⟨_, rfl, ?_⟩; have n0_ := Aside0.mk (Kd.R_lower ho0 (below_size (by repeat (first | (with_reducible first | exact HB.out | apply below_alloc | apply pw_below_drewN | apply below_drew1) | exact HB.out)))); have n1_ := Aside0.mk (below_step (by repeat (first | (with_reducible first | exact HB.out | apply below_alloc | apply pw_below_drewN | apply below_drew1) | exact HB.out)) hb); clear HB; have HO158 := n0_; have HB := n1_; clear n0_ n1_; (try clear hb); (try clear hb2); (try clear hk); (try clear hi); (try clear ho0); obtain ⟨Ao14, co14, eo14⟩ := Kd.R_slice HO158.out; subst eo14; have q15 : (4 : Int) ≤ ((t156.length : Int) : Int) := of_decide_eq_true (by first | (with_reducible assumption) | assumption); obtain ⟨i015, hi015, _, hsz15, _⟩ := info_parts info5; have hroom15 : t156.length ≤ co14 := (Kd.R_reads' HO158.out).2.1; have hC15 : Kd.C (Kd.int .u8) _ Ao14 t156.length t156 := (Kd.R_reads' HO158.out).2.2; have hcut15 := cut_to (P := Try.prog) 29 5 .i64 Try.underlying29 hi015 Ao14 t156.length co14 4 (by omega) q15 hroom15; have hr15 := Kd.C_take (m := 4) hC15 (by omega); have hy15 : y160.length = (4 : Int).toNat := (by rw [Ny160.out, List.length_take]; omega); rw [← Ny160.out] at hr15; rw [← hy15] at hcut15; have HR163 := Aside0.mk hr15; have HC163 := Aside0.mk (show y160.length ≤ co14 from by omega); clear hr15 hC15 hroom15 hi015 hsz15; have KY15 := Aside0.mk hy15; clear hy15; have KL15 := Aside0.mk (show 4 ≤ t156.length from by omega); replace q15 := eq_true q15; have hcv16 := Kd.C_string (P := Try.prog) (A := Ao14) (c := co14) Try.underlying29 Try.underlying5 Try.underlying9 (by repeat (first | (with_reducible exact HR163.out) | (with_reducible refine Kd.C_alloc ?_ _) | (with_reducible refine Kd.C_drewN ?_ _) | (with_reducible refine Kd.C_drew ?_) | exact HR163.out))) | (go_at_call 14; (with_reducible refine (header_Known.calls k 13 false _ A6.out).mono ?_); rintro e w' ⟨rfl, ⟨nd, rfl⟩⟩))
            all_goals
              go_ret
              exact ⟨by first | rfl | (simp [errW_none, errW_some] <;> rfl) | (simp [*, errW_none, errW_some] <;> rfl), by repeat (first | (with_reducible first | exact HB.out | apply below_alloc | apply pw_below_drewN | apply below_drew1) | exact HB.out)⟩
        · rw [if_neg c5] at H
          have c5b0 : ((strOfNums y160).toList == ([0, 18, 0, 44] : List UInt8)) = false := beq_eq_false_iff_ne.mpr c5
          have c5b1 : ((strOfNums y160).toList != ([0, 18, 0, 44] : List UInt8)) = true := bne_iff_ne.mpr c5
          obtain rfl := Option.some.inj H
          go_enter Try.func16, Try.ntmps16
          go_wp2_with (first | ((with_reducible refine gate_callee (f := 10) rfl ?_); refine goesL_ (some 5) rfl rfl Try.func10 (by kernel_rfl) rfl #[.agg #[.int .i64 0, .int .i64 0, .int .i64 0, .int .i64 0, .int .u64 0, .int .i64 0, .int .i64 0, .int .i64 0, .int .i64 0, .int .u64 0, .int .i64 0, .int .i64 0, .int .i64 0, .int .i64 0, .int .i64 0, .int .i64 0, .int .i64 0, .int .u64 0, .int .i64 0, .int .i64 0, .int .i64 0, .int .i64 0, .int .i64 0], .int .i64 44] rfl (by (try simp only [List.map_toArray, List.map_cons, List.map_nil]); first | done | rfl | (simp only [List.length_drop, List.length_take]; rfl)) ?_; (with_reducible refine (header_Put.calls k 0 0 0 0 0 0 0 0 0 0 0 0 0 0 0 0 0 0 0 0 0 0 0 44 t156 true _ A1.out).mono ?_); rintro e w17 ⟨v157, rfl, ho0, hb⟩; refine ⟨_, rfl, ?_⟩; have n0_ := Aside0.mk (Kd.R_lower ho0 (below_size (by repeat (first | (with_reducible first | exact HB.out | apply below_alloc | apply pw_below_drewN | apply below_drew1) | exact HB.out)))); have n1_ := Aside0.mk (below_step (by repeat (first | (with_reducible first | exact HB.out | apply below_alloc | apply pw_below_drewN | apply below_drew1) | exact HB.out)) hb); clear HB; have HO158 := n0_; have HB := n1_; clear n0_ n1_; (try clear hb); (try clear hb2); (try clear hk); (try clear hi); (try clear ho0); obtain ⟨Ao18, co18, eo18⟩ := Kd.R_slice HO158.out; subst eo18; have q19 : (4 : Int) ≤ ((t156.length : Int) : Int) := of_decide_eq_true (by first | (with_reducible assumption) | assumption); obtain ⟨i019, hi019, _, hsz19, _⟩ := info_parts info5; have hroom19 : t156.length ≤ co18 := (Kd.R_reads' HO158.out).2.1; have hC19 : Kd.C (Kd.int .u8) _ Ao18 t156.length t156 := (Kd.R_reads' HO158.out).2.2; have hcut19 := cut_to (P := Try.prog) 29 5 .i64 Try.underlying29 hi019 Ao18 t156.length co18 4 (by omega) q19 hroom19; have hr19 := Kd.C_take (m := 4) hC19 (by omega); have hy19 : y160.length = (4 : Int).toNat := (by rw [Ny160.out, List.length_take]; omega); rw [← Ny160.out] at hr19; rw [← hy19] at hcut19; have HR163 := Aside0.mk hr19; have HC163 := Aside0.mk (show y160.length ≤ co18 from by omega); clear hr19 hC19 hroom19 hi019 hsz19; have KY19 := Aside0.mk hy19; clear hy19; have KL19 := Aside0.mk (show 4 ≤ t156.length from by omega); replace q19 := eq_true q19; have hcv20 := Kd.C_string (P := Try.prog) (A := Ao18) (c := co18) Try.underlying29 Try.underlying5 Try.underlying9 (by repeat (first | (with_reducible exact HR163.out) | (with_reducible refine Kd.C_alloc ?_ _) | (with_reducible refine Kd.C_drewN ?_ _) | (with_reducible refine Kd.C_drew ?_) | exact HR163.out))))
          all_goals
            go_ret
            exact ⟨by first | rfl | (simp [errW_none, errW_some] <;> rfl) | (simp [*, errW_none, errW_some] <;> rfl), by repeat (first | (with_reducible first | exact HB.out | apply below_alloc | apply pw_below_drewN | apply below_drew1) | exact HB.out)⟩
      · rw [if_neg c4] at H
        exact absurd H (by simp)
    · rw [if_neg c3] at H
      have c3b0 : ((t156.length : Int) == 34) = false := beq_eq_false_iff_ne.mpr c3
      have c3b1 : ((t156.length : Int) != 34) = true := bne_iff_ne.mpr c3
      obtain rfl := Option.some.inj H
      go_enter Try.func16, Try.ntmps16
      go_wp2_with (first | ((with_reducible refine gate_callee (f := 10) rfl ?_); refine goesL_ (some 5) rfl rfl Try.func10 (by kernel_rfl) rfl #[.agg #[.int .i64 0, .int .i64 0, .int .i64 0, .int .i64 0, .int .u64 0, .int .i64 0, .int .i64 0, .int .i64 0, .int .i64 0, .int .u64 0, .int .i64 0, .int .i64 0, .int .i64 0, .int .i64 0, .int .i64 0, .int .i64 0, .int .i64 0, .int .u64 0, .int .i64 0, .int .i64 0, .int .i64 0, .int .i64 0, .int .i64 0], .int .i64 44] rfl (by (try simp only [List.map_toArray, List.map_cons, List.map_nil]); first | done | rfl | (simp only [List.length_drop, List.length_take]; rfl)) ?_; (with_reducible refine (header_Put.calls k 0 0 0 0 0 0 0 0 0 0 0 0 0 0 0 0 0 0 0 0 0 0 0 44 t156 true _ A1.out).mono ?_); rintro e w21 ⟨v157, rfl, ho0, hb⟩; refine ⟨_, rfl, ?_⟩; have n0_ := Aside0.mk (Kd.R_lower ho0 (below_size (by repeat (first | (with_reducible first | exact HB.out | apply below_alloc | apply pw_below_drewN | apply below_drew1) | exact HB.out)))); have n1_ := Aside0.mk (below_step (by repeat (first | (with_reducible first | exact HB.out | apply below_alloc | apply pw_below_drewN | apply below_drew1) | exact HB.out)) hb); clear HB; have HO158 := n0_; have HB := n1_; clear n0_ n1_; (try clear hb); (try clear hb2); (try clear hk); (try clear hi); (try clear ho0); obtain ⟨Ao22, co22, eo22⟩ := Kd.R_slice HO158.out; subst eo22))
      all_goals
        go_ret
        exact ⟨by first | rfl | (simp [errW_none, errW_some] <;> rfl) | (simp [*, errW_none, errW_some] <;> rfl), by repeat (first | (with_reducible first | exact HB.out | apply below_alloc | apply pw_below_drewN | apply below_drew1) | exact HB.out)⟩
  · replace c2 := Bool.eq_false_iff.mpr c2
    subst c2
    have H1 : (some false) = some r := by rw [if_neg (show ¬ (false = true) by decide)] at H; exact H
    clear H
    have H := H1
    clear H1
    obtain rfl := Option.some.inj H
    go_enter Try.func16, Try.ntmps16
    go_wp2_with (first | ((with_reducible refine gate_callee (f := 10) rfl ?_); refine goesL_ (some 5) rfl rfl Try.func10 (by kernel_rfl) rfl #[.agg #[.int .i64 0, .int .i64 0, .int .i64 0, .int .i64 0, .int .u64 0, .int .i64 0, .int .i64 0, .int .i64 0, .int .i64 0, .int .u64 0, .int .i64 0, .int .i64 0, .int .i64 0, .int .i64 0, .int .i64 0, .int .i64 0, .int .i64 0, .int .u64 0, .int .i64 0, .int .i64 0, .int .i64 0, .int .i64 0, .int .i64 0], .int .i64 44] rfl (by (try simp only [List.map_toArray, List.map_cons, List.map_nil]); first | done | rfl | (simp only [List.length_drop, List.length_take]; rfl)) ?_; (with_reducible refine (header_Put.calls k 0 0 0 0 0 0 0 0 0 0 0 0 0 0 0 0 0 0 0 0 0 0 0 44 t156 false _ A1.out).mono ?_); rintro e w23 ⟨v157, rfl, ho0, hb⟩; refine ⟨_, rfl, ?_⟩; have n0_ := Aside0.mk (Kd.R_lower ho0 (below_size (by repeat (first | (with_reducible first | exact HB.out | apply below_alloc | apply pw_below_drewN | apply below_drew1) | exact HB.out)))); have n1_ := Aside0.mk (below_step (by repeat (first | (with_reducible first | exact HB.out | apply below_alloc | apply pw_below_drewN | apply below_drew1) | exact HB.out)) hb); clear HB; have HO158 := n0_; have HB := n1_; clear n0_ n1_; (try clear hb); (try clear hb2); (try clear hk); (try clear hi); (try clear ho0)))
    all_goals
      go_ret
      exact ⟨by first | rfl | (simp [errW_none, errW_some] <;> rfl) | (simp [*, errW_none, errW_some] <;> rfl), by repeat (first | (with_reducible first | exact HB.out | apply below_alloc | apply pw_below_drewN | apply below_drew1) | exact HB.out)⟩

/-! ### octets_none: function 38 -/
def octets_none.f (l0 : List Int) (a1 : Int) (a2 : Int) : Option (Bool) := if a2 < 0 then (some true) else (if a1 < 0 then (some true) else (if a1 > (l0.length : Int) then (some true) else (some (decide (a2 > (wrap64 ((l0.length : Int) - a1)))))))
set_option maxHeartbeats 8000000 in
set_option maxRecDepth 100000 in
theorem octets_none.calls (A0 : Option Addr) (c0 : Nat) (l0 : List Int) (a1 : Int) (a2 : Int) (r : Bool) (w : World) (hr0 : Kd.C (Kd.int .u8) w A0 l0.length l0) (hc0 : l0.length ≤ c0) (h : octets_none.f l0 a1 a2 = some r) :
    Calls Try.prog 38 #[.slice A0 l0.length c0, .int .i64 a1, .int .i64 a2] w fun e w' => e = .returned (.bool r) ∧ Drawn0 w w' := by
  have HR0 := Aside0.mk hr0
  have HC0 := Aside0.mk hc0
  clear hr0 hc0
  have H : (if a2 < 0 then (some true) else (if a1 < 0 then (some true) else (if a1 > (l0.length : Int) then (some true) else (some (decide (a2 > (wrap64 ((l0.length : Int) - a1)))))))) = some r := h
  clear h
  by_cases c4 : a2 < 0
  · rw [if_pos c4] at H
    have c4b0 : decide (a2 < 0) = true := decide_eq_true c4
    clear c4
    obtain rfl := Option.some.inj H
    go_enter Try.func38, Try.ntmps38
    go_wp2
    all_goals
      go_ret
      exact ⟨by first | rfl | (simp; done) | (simp [*]; done), by repeat (first | exact Drawn0.refl _ | apply Drawn0.step)⟩
  · rw [if_neg c4] at H
    have c4b0 : decide (a2 < 0) = false := decide_eq_false c4
    clear c4
    by_cases c5 : a1 < 0
    · rw [if_pos c5] at H
      have c5b0 : decide (a1 < 0) = true := decide_eq_true c5
      clear c5
      obtain rfl := Option.some.inj H
      go_enter Try.func38, Try.ntmps38
      go_wp2
      all_goals
        go_ret
        exact ⟨by first | rfl | (simp; done) | (simp [*]; done), by repeat (first | exact Drawn0.refl _ | apply Drawn0.step)⟩
    · rw [if_neg c5] at H
      have c5b0 : decide (a1 < 0) = false := decide_eq_false c5
      clear c5
      by_cases c6 : a1 > (l0.length : Int)
      · rw [if_pos c6] at H
        have c6b0 : decide ((l0.length : Int) < a1) = true := decide_eq_true c6
        clear c6
        obtain rfl := Option.some.inj H
        go_enter Try.func38, Try.ntmps38
        go_wp2
        all_goals
          go_ret
          exact ⟨by first | rfl | (simp; done) | (simp [*]; done), by repeat (first | exact Drawn0.refl _ | apply Drawn0.step)⟩
      · rw [if_neg c6] at H
        have c6b0 : decide ((l0.length : Int) < a1) = false := decide_eq_false c6
        clear c6
        obtain rfl := Option.some.inj H
        go_enter Try.func38, Try.ntmps38
        go_wp2
        all_goals
          go_ret
          exact ⟨by first | rfl | (simp; done) | (simp [*]; done), by repeat (first | exact Drawn0.refl _ | apply Drawn0.step)⟩

/-! ### octets_read: function 39 -/
def octets_read.l0 : Nat → Int → List Int → Int → Int → Option (Int)
  | 0, _, _, _, _ => none
  | k + 1, x3, x6, x7, x8 => if x8 < x7 then (if 0 ≤ x8 then (if x8 < (x6.length : Int) then (octets_read.l0 k (Go.bits .or .u64 (IntKind.u64.wrap (x3 * 256)) (IntKind.u64.wrap (rd x6 x8))) x6 x7 (wrap64 (x8 + 1))) else (none)) else (none)) else (some x3)
def octets_read.f (k : Nat) (l0 : List Int) : Option (Int) := octets_read.l0 k 0 l0 (l0.length : Int) 0
theorem octets_read.mono_l : ∀ k, (∀ y0 y1 y2 y3, LeO (octets_read.l0 k y0 y1 y2 y3) (octets_read.l0 (k + 1) y0 y1 y2 y3))
  | 0 => fun _ _ _ _ r h => by simp [octets_read.l0] at h
  | k + 1 => by
    have ih0 := octets_read.mono_l k
    · intro y0 y1 y2 y3
      unfold octets_read.l0
      repeat' first
      | (with_reducible exact ih0 _ _ _ _)
      | (with_reducible exact LeO.refl _)
      | (with_reducible exact LeO.none _)
      | (with_reducible refine LeO.ite ?_ ?_)
      | (with_reducible refine LeO.bind ?_ (fun _ => ?_))
      | exact ih0 _ _ _ _
      | exact LeO.none _
      | refine LeO.ite ?_ ?_
      | refine LeO.bind ?_ (fun _ => ?_)
theorem octets_read.mono : ∀ a0 k, LeO (octets_read.f k a0) (octets_read.f (k + 1) a0) := by
  intro a0 k
  have ih0 := octets_read.mono_l k
  unfold octets_read.f
  repeat' first
      | (with_reducible exact ih0 _ _ _ _)
      | (with_reducible exact LeO.refl _)
      | (with_reducible exact LeO.none _)
      | (with_reducible refine LeO.ite ?_ ?_)
      | (with_reducible refine LeO.bind ?_ (fun _ => ?_))
      | exact ih0 _ _ _ _
      | exact LeO.none _
      | refine LeO.ite ?_ ?_
      | refine LeO.bind ?_ (fun _ => ?_)
set_option maxHeartbeats 8000000 in
set_option maxRecDepth 100000 in
theorem octets_read.calls (k : Nat) (A0 : Option Addr) (c0 : Nat) (l0 : List Int) (r : Int) (w : World) (hr0 : Kd.C (Kd.int .u8) w A0 l0.length l0) (hc0 : l0.length ≤ c0) (h : octets_read.f k l0 = some r) :
    Calls Try.prog 39 #[.slice A0 l0.length c0] w fun e w' => e = .returned (.int .u64 r) ∧ Drawn0 w w' := by
  have HR0 := Aside0.mk hr0
  have HC0 := Aside0.mk hc0
  clear hr0 hc0
  have H : (octets_read.l0 k 0 l0 (l0.length : Int) 0) = some r := h
  clear h
  have H' := Aside0.mk H
  clear H
  go_enter Try.func39, Try.ntmps39
  go_wp2
  go_loopg [3, 8] k (fun kq v3 v8 w' => ∃ (x3_1 : Int) (x8_1 : Int), v3 = .int .u64 x3_1 ∧ v8 = .int .i64 x8_1 ∧ Aside0 (octets_read.l0 kq x3_1 l0 (l0.length : Int) x8_1 = some r) ∧ Aside0 (kq ≤ k) ∧ Drawn0 w w')
  case atStart => exact ⟨(0), (0), (by first | rfl | (simp; done) | (simp [*]; done)), (by first | rfl | (simp; done) | (simp [*]; done)), H', ⟨Nat.le_refl _⟩, by repeat (first | exact Drawn0.refl _ | apply Drawn0.step)⟩
  case round =>
    clear H'
    obtain ⟨x3_1, x8_1, rfl, rfl, HA, HK1, ⟨m1, rfl⟩⟩ := hrel
    cases gk with
    | zero => exact absurd HA.out (by simp [octets_read.l0])
    | succ k1 =>
      have H := HA.out
      clear HA
      simp only [octets_read.l0] at H
      by_cases c2 : x8_1 < (l0.length : Int)
      · rw [if_pos c2] at H
        have c2b0 : decide (x8_1 < (l0.length : Int)) = true := decide_eq_true c2
        clear c2
        by_cases c3 : 0 ≤ x8_1
        · rw [if_pos c3] at H
          have c3b0 : decide (0 ≤ x8_1) = true := decide_eq_true c3
          clear c3
          by_cases c4 : x8_1 < (l0.length : Int)
          · rw [if_pos c4] at H
            have c4b0 : decide (x8_1 < (l0.length : Int)) = true := decide_eq_true c4
            clear c4
            have H' := Aside0.mk H
            clear H
            have p166 : 0 ≤ (x8_1 : Int) := of_decide_eq_true (by first | (with_reducible assumption) | assumption)
            have q166 : x8_1 < (l0.length : Int) := of_decide_eq_true (by first | (with_reducible assumption) | assumption)
            obtain ⟨ad166, e166, hx166_0⟩ := Kd.at_int HR0.out x8_1 p166 q166
            cases e166
            replace p166 := eq_true p166
            replace q166 := eq_true q166
            go_wp2
            go_roundg k1
            case measure => have := HK1.out; omega
            case rel => exact ⟨(Go.bits .or .u64 (IntKind.u64.wrap (x3_1 * 256)) (IntKind.u64.wrap (rd l0 x8_1))), (wrap64 (x8_1 + 1)), (by first | rfl | (simp; done) | (simp [*]; done)), (by first | rfl | (simp; done) | (simp [*]; done)), H', ⟨by have := HK1.out; omega⟩, by repeat (first | exact Drawn0.refl _ | apply Drawn0.step)⟩
          · rw [if_neg c4] at H
            exact absurd H (by simp)
        · rw [if_neg c3] at H
          exact absurd H (by simp)
      · rw [if_neg c2] at H
        have c2b0 : decide (x8_1 < (l0.length : Int)) = false := decide_eq_false c2
        clear c2
        obtain rfl := Option.some.inj H
        go_wp2
        all_goals
          go_ret
          exact ⟨by first | rfl | (simp; done) | (simp [*]; done), by repeat (first | exact Drawn0.refl _ | apply Drawn0.step)⟩

/-! ### octets_Get: function 30 -/
def octets_Get.f (k : Nat) (l0 : List Int) (a1 : Int) (a2 : Int) : Option (Int × Bool) := if a2 < 1 then (some (0, false)) else (if a2 > 7 then (some (0, false)) else ((octets_none.f l0 a1 a2).bind fun t167 => (if t167 = true then (some (0, false)) else (if 0 ≤ a1 then (if a1 ≤ (wrap64 (a1 + a2)) then (if (wrap64 (a1 + a2)) ≤ (l0.length : Int) then ((octets_read.f k ((l0.take ((wrap64 (a1 + a2)) : Int).toNat).drop (a1 : Int).toNat)).bind fun t169 => (some (wrap64 (t169), true))) else (none)) else (none)) else (none)))))
theorem octets_Get.mono : ∀ a0 a1 a2 k, LeO (octets_Get.f k a0 a1 a2) (octets_Get.f (k + 1) a0 a1 a2) := by
  intro a0 a1 a2 k
  unfold octets_Get.f
  repeat' first
      | (with_reducible exact octets_read.mono _ _)
      | (with_reducible exact LeO.refl _)
      | (with_reducible exact LeO.none _)
      | (with_reducible refine LeO.ite ?_ ?_)
      | (with_reducible refine LeO.bind ?_ (fun _ => ?_))
      | exact octets_read.mono _ _
      | exact LeO.none _
      | refine LeO.ite ?_ ?_
      | refine LeO.bind ?_ (fun _ => ?_)
set_option maxHeartbeats 8000000 in
set_option maxRecDepth 100000 in
theorem octets_Get.calls (k : Nat) (A0 : Option Addr) (c0 : Nat) (l0 : List Int) (a1 : Int) (a2 : Int) (r1 : Int) (r2 : Bool) (w : World) (hr0 : Kd.C (Kd.int .u8) w A0 l0.length l0) (hc0 : l0.length ≤ c0) (h : octets_Get.f k l0 a1 a2 = some (r1, r2)) :
    Calls Try.prog 30 #[.slice A0 l0.length c0, .int .i64 a1, .int .i64 a2] w fun e w' => e = .returned (.tuple #[.int .i64 r1, .bool r2]) ∧ Drawn0 w w' := by
  have HR0 := Aside0.mk hr0
  have HC0 := Aside0.mk hc0
  clear hr0 hc0
  have H : (if a2 < 1 then (some (0, false)) else (if a2 > 7 then (some (0, false)) else ((octets_none.f l0 a1 a2).bind fun t167 => (if t167 = true then (some (0, false)) else (if 0 ≤ a1 then (if a1 ≤ (wrap64 (a1 + a2)) then (if (wrap64 (a1 + a2)) ≤ (l0.length : Int) then ((octets_read.f k ((l0.take ((wrap64 (a1 + a2)) : Int).toNat).drop (a1 : Int).toNat)).bind fun t169 => (some (wrap64 (t169), true))) else (none)) else (none)) else (none)))))) = some (r1, r2) := h
  clear h
  by_cases c4 : a2 < 1
  · rw [if_pos c4] at H
    have c4b0 : decide (a2 < 1) = true := decide_eq_true c4
    clear c4
    simp only [Option.some.injEq, Prod.mk.injEq] at H
    obtain ⟨rfl, rfl⟩ := H
    go_enter Try.func30, Try.ntmps30
    go_wp2
    go_ret2
    exact ⟨by first | rfl | (simp; done) | (simp [*]; done), by repeat (first | exact Drawn0.refl _ | apply Drawn0.step)⟩
  · rw [if_neg c4] at H
    have c4b0 : decide (a2 < 1) = false := decide_eq_false c4
    clear c4
    by_cases c5 : a2 > 7
    · rw [if_pos c5] at H
      have c5b0 : decide (7 < a2) = true := decide_eq_true c5
      clear c5
      simp only [Option.some.injEq, Prod.mk.injEq] at H
      obtain ⟨rfl, rfl⟩ := H
      go_enter Try.func30, Try.ntmps30
      go_wp2
      go_ret2
      exact ⟨by first | rfl | (simp; done) | (simp [*]; done), by repeat (first | exact Drawn0.refl _ | apply Drawn0.step)⟩
    · rw [if_neg c5] at H
      have c5b0 : decide (7 < a2) = false := decide_eq_false c5
      clear c5
      replace H := Option.bind_eq_some_iff.mp H
      obtain ⟨t167, A60, H⟩ := H
      replace H : (if t167 = true then (some (0, false)) else (if 0 ≤ a1 then (if a1 ≤ (wrap64 (a1 + a2)) then (if (wrap64 (a1 + a2)) ≤ (l0.length : Int) then ((octets_read.f k ((l0.take ((wrap64 (a1 + a2)) : Int).toNat).drop (a1 : Int).toNat)).bind fun t169 => (some (wrap64 (t169), true))) else (none)) else (none)) else (none))) = some (r1, r2) := H
      have A6 := Aside0.mk A60
      clear A60
      by_cases c7 : t167 = true
      · subst c7
        have H1 : (some (0, false)) = some (r1, r2) := by rw [if_pos rfl] at H; exact H
        clear H
        have H := H1
        clear H1
        simp only [Option.some.injEq, Prod.mk.injEq] at H
        obtain ⟨rfl, rfl⟩ := H
        go_enter Try.func30, Try.ntmps30
        go_wp2_with (first | (go_at_call 38; (with_reducible refine (octets_none.calls _ _ l0 a1 a2 true _ ?side1 ?side2 A6.out).mono ?_); (case side1 => repeat (first | exact HR0.out | (with_reducible refine Kd.C_alloc ?_ _) | (with_reducible refine Kd.C_drewN ?_ _) | (with_reducible refine Kd.C_drew ?_))); (case side2 => exact HC0.out); rintro e w' ⟨rfl, ⟨nd, rfl⟩⟩))
        go_ret2
        exact ⟨by first | rfl | (simp; done) | (simp [*]; done), by repeat (first | exact Drawn0.refl _ | apply Drawn0.step)⟩
      · replace c7 := Bool.eq_false_iff.mpr c7
        subst c7
        have H1 : (if 0 ≤ a1 then (if a1 ≤ (wrap64 (a1 + a2)) then (if (wrap64 (a1 + a2)) ≤ (l0.length : Int) then ((octets_read.f k ((l0.take ((wrap64 (a1 + a2)) : Int).toNat).drop (a1 : Int).toNat)).bind fun t169 => (some (wrap64 (t169), true))) else (none)) else (none)) else (none)) = some (r1, r2) := by rw [if_neg (show ¬ (false = true) by decide)] at H; exact H
        clear H
        have H := H1
        clear H1
        by_cases c8 : 0 ≤ a1
        · rw [if_pos c8] at H
          have c8b0 := eq_true c8
          have c8b1 : decide (0 ≤ a1) = true := decide_eq_true c8
          clear c8
          by_cases c9 : a1 ≤ (wrap64 (a1 + a2))
          · rw [if_pos c9] at H
            have c9b0 := eq_true c9
            have c9b1 : decide (a1 ≤ (wrap64 (a1 + a2))) = true := decide_eq_true c9
            by_cases c10 : (wrap64 (a1 + a2)) ≤ (l0.length : Int)
            · rw [if_pos c10] at H
              have c10b0 := eq_true c10
              have c10b1 : decide ((wrap64 (a1 + a2)) ≤ (l0.length : Int)) = true := decide_eq_true c10
              replace H := Option.bind_eq_some_iff.mp H
              obtain ⟨t169, A110, H⟩ := H
              replace H : (some (wrap64 (t169), true)) = some (r1, r2) := H
              have A11 := Aside0.mk A110
              clear A110
              simp only [Option.some.injEq, Prod.mk.injEq] at H
              obtain ⟨rfl, rfl⟩ := H
              go_enter Try.func30, Try.ntmps30
              go_wp2_with (first | (go_at_call 38; (with_reducible refine (octets_none.calls _ _ l0 a1 a2 false _ ?side1 ?side2 A6.out).mono ?_); (case side1 => repeat (first | exact HR0.out | (with_reducible refine Kd.C_alloc ?_ _) | (with_reducible refine Kd.C_drewN ?_ _) | (with_reducible refine Kd.C_drew ?_))); (case side2 => exact HC0.out); rintro e w' ⟨rfl, ⟨nd, rfl⟩⟩; obtain ⟨i012, hi012, _, hsz12, _⟩ := info_parts info5; obtain ⟨A12, hcut12, hA12, hC12⟩ := print_mid_of (P := Try.prog) (Value.int .u8) 0 29 5 .i64 .i64 Try.underlying29 hi012 hsz12 A0 c0 l0 a1 (wrap64 (a1 + a2)) (of_decide_eq_true (by first | (with_reducible assumption) | assumption)) (by first | omega | exact of_decide_eq_true (by first | (with_reducible assumption) | assumption)) (of_decide_eq_true (by first | (with_reducible assumption) | assumption)) HC0.out; have HR168 := Aside0.mk (Kd.C_of_reads (h1 := fun _ => rfl) (hA12 _ (Kd.reads_of_C HR0.out))); have HC168 := Aside0.mk hC12; clear hA12 hC12 hi012 hsz12) | ((with_reducible refine gate_callee (f := 39) rfl ?_); refine goesL_ (some 26) rfl rfl Try.func39 (by kernel_rfl) rfl #[.slice A12 ((l0.take ((wrap64 (a1 + a2)) : Int).toNat).drop (a1 : Int).toNat).length (c0 - a1.toNat)] rfl (by (try simp only [List.map_toArray, List.map_cons, List.map_nil]); first | done | (rw [show ((l0.take ((wrap64 (a1 + a2)) : Int).toNat).drop (a1 : Int).toNat).length = ((wrap64 (a1 + a2)).toNat - a1.toNat) from (by rw [List.length_drop, List.length_take]; have h_ : ((wrap64 (a1 + a2)) : Int) ≤ (l0.length : Int) := of_decide_eq_true (by first | (with_reducible assumption) | assumption); omega)] <;> rfl) | rfl | (simp only [List.length_drop, List.length_take]; rfl)) ?_; (with_reducible refine (octets_read.calls k _ _ ((l0.take ((wrap64 (a1 + a2)) : Int).toNat).drop (a1 : Int).toNat) t169 _ ?side1 ?side2 A11.out).mono ?_); (case side1 => repeat (first | exact HR168.out | (with_reducible refine Kd.C_alloc ?_ _) | (with_reducible refine Kd.C_drewN ?_ _) | (with_reducible refine Kd.C_drew ?_))); (case side2 => exact HC168.out); rintro e w' ⟨rfl, ⟨nd, rfl⟩⟩; refine ⟨_, rfl, ?_⟩))
              go_ret2
              exact ⟨by first | rfl | (simp; done) | (simp [*]; done), by repeat (first | exact Drawn0.refl _ | apply Drawn0.step)⟩
            · rw [if_neg c10] at H
              exact absurd H (by simp)
          · rw [if_neg c9] at H
            exact absurd H (by simp)
        · rw [if_neg c8] at H
          exact absurd H (by simp)

/-! ### octets_Signed: function 31 -/
def octets_Signed.f (k : Nat) (l0 : List Int) (a1 : Int) (a2 : Int) : Option (Int × Bool) := if a2 < 1 then (some (0, false)) else (if a2 > 8 then (some (0, false)) else ((octets_none.f l0 a1 a2).bind fun t170 => (if t170 = true then (some (0, false)) else (if 0 ≤ a1 then (if a1 ≤ (wrap64 (a1 + a2)) then (if (wrap64 (a1 + a2)) ≤ (l0.length : Int) then ((octets_read.f k ((l0.take ((wrap64 (a1 + a2)) : Int).toNat).drop (a1 : Int).toNat)).bind fun t172 => (if 0 ≤ (wrap64 (64 - (wrap64 (8 * a2)))) then (some (shr .i64 (wrap64 (shl .u64 t172 (wrap64 (64 - (wrap64 (8 * a2)))))) (wrap64 (64 - (wrap64 (8 * a2)))), true)) else (none))) else (none)) else (none)) else (none)))))
theorem octets_Signed.mono : ∀ a0 a1 a2 k, LeO (octets_Signed.f k a0 a1 a2) (octets_Signed.f (k + 1) a0 a1 a2) := by
  intro a0 a1 a2 k
  unfold octets_Signed.f
  repeat' first
      | (with_reducible exact octets_read.mono _ _)
      | (with_reducible exact LeO.refl _)
      | (with_reducible exact LeO.none _)
      | (with_reducible refine LeO.ite ?_ ?_)
      | (with_reducible refine LeO.bind ?_ (fun _ => ?_))
      | exact octets_read.mono _ _
      | exact LeO.none _
      | refine LeO.ite ?_ ?_
      | refine LeO.bind ?_ (fun _ => ?_)
set_option maxHeartbeats 8000000 in
set_option maxRecDepth 100000 in
theorem octets_Signed.calls (k : Nat) (A0 : Option Addr) (c0 : Nat) (l0 : List Int) (a1 : Int) (a2 : Int) (r1 : Int) (r2 : Bool) (w : World) (hr0 : Kd.C (Kd.int .u8) w A0 l0.length l0) (hc0 : l0.length ≤ c0) (h : octets_Signed.f k l0 a1 a2 = some (r1, r2)) :
    Calls Try.prog 31 #[.slice A0 l0.length c0, .int .i64 a1, .int .i64 a2] w fun e w' => e = .returned (.tuple #[.int .i64 r1, .bool r2]) ∧ Drawn0 w w' := by
  have HR0 := Aside0.mk hr0
  have HC0 := Aside0.mk hc0
  clear hr0 hc0
  have H : (if a2 < 1 then (some (0, false)) else (if a2 > 8 then (some (0, false)) else ((octets_none.f l0 a1 a2).bind fun t170 => (if t170 = true then (some (0, false)) else (if 0 ≤ a1 then (if a1 ≤ (wrap64 (a1 + a2)) then (if (wrap64 (a1 + a2)) ≤ (l0.length : Int) then ((octets_read.f k ((l0.take ((wrap64 (a1 + a2)) : Int).toNat).drop (a1 : Int).toNat)).bind fun t172 => (if 0 ≤ (wrap64 (64 - (wrap64 (8 * a2)))) then (some (shr .i64 (wrap64 (shl .u64 t172 (wrap64 (64 - (wrap64 (8 * a2)))))) (wrap64 (64 - (wrap64 (8 * a2)))), true)) else (none))) else (none)) else (none)) else (none)))))) = some (r1, r2) := h
  clear h
  by_cases c4 : a2 < 1
  · rw [if_pos c4] at H
    have c4b0 : decide (a2 < 1) = true := decide_eq_true c4
    clear c4
    simp only [Option.some.injEq, Prod.mk.injEq] at H
    obtain ⟨rfl, rfl⟩ := H
    go_enter Try.func31, Try.ntmps31
    go_wp2
    go_ret2
    exact ⟨by first | rfl | (simp; done) | (simp [*]; done), by repeat (first | exact Drawn0.refl _ | apply Drawn0.step)⟩
  · rw [if_neg c4] at H
    have c4b0 : decide (a2 < 1) = false := decide_eq_false c4
    clear c4
    by_cases c5 : a2 > 8
    · rw [if_pos c5] at H
      have c5b0 : decide (8 < a2) = true := decide_eq_true c5
      clear c5
      simp only [Option.some.injEq, Prod.mk.injEq] at H
      obtain ⟨rfl, rfl⟩ := H
      go_enter Try.func31, Try.ntmps31
      go_wp2
      go_ret2
      exact ⟨by first | rfl | (simp; done) | (simp [*]; done), by repeat (first | exact Drawn0.refl _ | apply Drawn0.step)⟩
    · rw [if_neg c5] at H
      have c5b0 : decide (8 < a2) = false := decide_eq_false c5
      clear c5
      replace H := Option.bind_eq_some_iff.mp H
      obtain ⟨t170, A60, H⟩ := H
      replace H : (if t170 = true then (some (0, false)) else (if 0 ≤ a1 then (if a1 ≤ (wrap64 (a1 + a2)) then (if (wrap64 (a1 + a2)) ≤ (l0.length : Int) then ((octets_read.f k ((l0.take ((wrap64 (a1 + a2)) : Int).toNat).drop (a1 : Int).toNat)).bind fun t172 => (if 0 ≤ (wrap64 (64 - (wrap64 (8 * a2)))) then (some (shr .i64 (wrap64 (shl .u64 t172 (wrap64 (64 - (wrap64 (8 * a2)))))) (wrap64 (64 - (wrap64 (8 * a2)))), true)) else (none))) else (none)) else (none)) else (none))) = some (r1, r2) := H
      have A6 := Aside0.mk A60
      clear A60
      by_cases c7 : t170 = true
      · subst c7
        have H1 : (some (0, false)) = some (r1, r2) := by rw [if_pos rfl] at H; exact H
        clear H
        have H := H1
        clear H1
        simp only [Option.some.injEq, Prod.mk.injEq] at H
        obtain ⟨rfl, rfl⟩ := H
        go_enter Try.func31, Try.ntmps31
        go_wp2_with (first | (go_at_call 38; (with_reducible refine (octets_none.calls _ _ l0 a1 a2 true _ ?side1 ?side2 A6.out).mono ?_); (case side1 => repeat (first | exact HR0.out | (with_reducible refine Kd.C_alloc ?_ _) | (with_reducible refine Kd.C_drewN ?_ _) | (with_reducible refine Kd.C_drew ?_))); (case side2 => exact HC0.out); rintro e w' ⟨rfl, ⟨nd, rfl⟩⟩))
        go_ret2
        exact ⟨by first | rfl | (simp; done) | (simp [*]; done), by repeat (first | exact Drawn0.refl _ | apply Drawn0.step)⟩
      · replace c7 := Bool.eq_false_iff.mpr c7
        subst c7
        have H1 : (if 0 ≤ a1 then (if a1 ≤ (wrap64 (a1 + a2)) then (if (wrap64 (a1 + a2)) ≤ (l0.length : Int) then ((octets_read.f k ((l0.take ((wrap64 (a1 + a2)) : Int).toNat).drop (a1 : Int).toNat)).bind fun t172 => (if 0 ≤ (wrap64 (64 - (wrap64 (8 * a2)))) then (some (shr .i64 (wrap64 (shl .u64 t172 (wrap64 (64 - (wrap64 (8 * a2)))))) (wrap64 (64 - (wrap64 (8 * a2)))), true)) else (none))) else (none)) else (none)) else (none)) = some (r1, r2) := by rw [if_neg (show ¬ (false = true) by decide)] at H; exact H
        clear H
        have H := H1
        clear H1
        by_cases c8 : 0 ≤ a1
        · rw [if_pos c8] at H
          have c8b0 := eq_true c8
          have c8b1 : decide (0 ≤ a1) = true := decide_eq_true c8
          clear c8
          by_cases c9 : a1 ≤ (wrap64 (a1 + a2))
          · rw [if_pos c9] at H
            have c9b0 := eq_true c9
            have c9b1 : decide (a1 ≤ (wrap64 (a1 + a2))) = true := decide_eq_true c9
            by_cases c10 : (wrap64 (a1 + a2)) ≤ (l0.length : Int)
            · rw [if_pos c10] at H
              have c10b0 := eq_true c10
              have c10b1 : decide ((wrap64 (a1 + a2)) ≤ (l0.length : Int)) = true := decide_eq_true c10
              replace H := Option.bind_eq_some_iff.mp H
              obtain ⟨t172, A110, H⟩ := H
              replace H : (if 0 ≤ (wrap64 (64 - (wrap64 (8 * a2)))) then (some (shr .i64 (wrap64 (shl .u64 t172 (wrap64 (64 - (wrap64 (8 * a2)))))) (wrap64 (64 - (wrap64 (8 * a2)))), true)) else (none)) = some (r1, r2) := H
              have A11 := Aside0.mk A110
              clear A110
              obtain ⟨ji12, hji12⟩ : ∃ j_ : Int, (wrap64 (64 - (wrap64 (8 * a2)))) = j_ := ⟨_, rfl⟩
              replace H : (if 0 ≤ (ji12) then (some (shr .i64 (wrap64 (shl .u64 t172 (ji12))) (ji12), true)) else (none)) = some (r1, r2) := by first | (rw [hji12] at H; exact H) | (simp only [hji12] at H ⊢; exact H)
              (try rw [hji12] at A6)
              (try rw [hji12] at A11)
              have hji12w : (IntKind.i64.wrap (64 - (wrap64 (8 * a2)))) = ji12 := (i64_w _).trans hji12
              by_cases c13 : 0 ≤ (ji12)
              · rw [if_pos c13] at H
                have c13b0 := eq_true c13
                have c13b1 : decide (0 ≤ (ji12)) = true := decide_eq_true c13
                clear c13
                obtain ⟨ji14, hji14⟩ : ∃ j_ : Int, (shl .u64 t172 (ji12)) = j_ := ⟨_, rfl⟩
                replace H : (some (shr .i64 (wrap64 (ji14)) (ji12), true)) = some (r1, r2) := by first | (rw [hji14] at H; exact H) | (simp only [hji14] at H ⊢; exact H)
                (try rw [hji14] at A6)
                (try rw [hji14] at A11)
                have hji14_ : (IntKind.u64.wrap (t172 * 2 ^ min (ji12).toNat 64)) = ji14 := hji14
                have hji14z : (ji12) ≤ 64 → (IntKind.u64.wrap (t172 * 2 ^ (ji12).toNat)) = ji14 := shl_small hji14
                have c15b0 := eq_true (of_decide_eq_true (by first | (with_reducible assumption) | assumption) : 0 ≤ (ji12))
                obtain ⟨ji16, hji16⟩ : ∃ j_ : Int, (shr .i64 (wrap64 (ji14)) (ji12)) = j_ := ⟨_, rfl⟩
                replace H : (some (ji16, true)) = some (r1, r2) := by first | (rw [hji16] at H; exact H) | (simp only [hji16] at H ⊢; exact H)
                (try rw [hji16] at A6)
                (try rw [hji16] at A11)
                have hji16_ : ((wrap64 (ji14)) / 2 ^ min (ji12).toNat 64) = ji16 := hji16
                have hji16z : (ji12) ≤ 64 → ((wrap64 (ji14)) / 2 ^ (ji12).toNat) = ji16 := shr_small hji16
                simp only [Option.some.injEq, Prod.mk.injEq] at H
                obtain ⟨rfl, rfl⟩ := H
                go_enter Try.func31, Try.ntmps31
                go_wp2_with (first | (go_at_call 38; (with_reducible refine (octets_none.calls _ _ l0 a1 a2 false _ ?side1 ?side2 A6.out).mono ?_); (case side1 => repeat (first | exact HR0.out | (with_reducible refine Kd.C_alloc ?_ _) | (with_reducible refine Kd.C_drewN ?_ _) | (with_reducible refine Kd.C_drew ?_))); (case side2 => exact HC0.out); rintro e w' ⟨rfl, ⟨nd, rfl⟩⟩; obtain ⟨i017, hi017, _, hsz17, _⟩ := info_parts info5; obtain ⟨A17, hcut17, hA17, hC17⟩ := print_mid_of (P := Try.prog) (Value.int .u8) 0 29 5 .i64 .i64 Try.underlying29 hi017 hsz17 A0 c0 l0 a1 (wrap64 (a1 + a2)) (of_decide_eq_true (by first | (with_reducible assumption) | assumption)) (by first | omega | exact of_decide_eq_true (by first | (with_reducible assumption) | assumption)) (of_decide_eq_true (by first | (with_reducible assumption) | assumption)) HC0.out; have HR171 := Aside0.mk (Kd.C_of_reads (h1 := fun _ => rfl) (hA17 _ (Kd.reads_of_C HR0.out))); have HC171 := Aside0.mk hC17; clear hA17 hC17 hi017 hsz17) | ((with_reducible refine gate_callee (f := 39) rfl ?_); refine goesL_ (some 30) rfl rfl Try.func39 (by kernel_rfl) rfl #[.slice A17 ((l0.take ((wrap64 (a1 + a2)) : Int).toNat).drop (a1 : Int).toNat).length (c0 - a1.toNat)] rfl (by (try simp only [List.map_toArray, List.map_cons, List.map_nil]); first | done | (rw [show ((l0.take ((wrap64 (a1 + a2)) : Int).toNat).drop (a1 : Int).toNat).length = ((wrap64 (a1 + a2)).toNat - a1.toNat) from (by rw [List.length_drop, List.length_take]; have h_ : ((wrap64 (a1 + a2)) : Int) ≤ (l0.length : Int) := of_decide_eq_true (by first | (with_reducible assumption) | assumption); omega)] <;> rfl) | rfl | (simp only [List.length_drop, List.length_take]; rfl)) ?_; (with_reducible refine (octets_read.calls k _ _ ((l0.take ((wrap64 (a1 + a2)) : Int).toNat).drop (a1 : Int).toNat) t172 _ ?side1 ?side2 A11.out).mono ?_); (case side1 => repeat (first | exact HR171.out | (with_reducible refine Kd.C_alloc ?_ _) | (with_reducible refine Kd.C_drewN ?_ _) | (with_reducible refine Kd.C_drew ?_))); (case side2 => exact HC171.out); rintro e w' ⟨rfl, ⟨nd, rfl⟩⟩; refine ⟨_, rfl, ?_⟩))
                go_ret2
                exact ⟨by first | rfl | (simp; done) | (simp only [← hji12, ← hji14, ← hji16] <;> (first | rfl | simp)) | (simp [*]; done), by repeat (first | exact Drawn0.refl _ | apply Drawn0.step)⟩
              · rw [if_neg c13] at H
                exact absurd H (by simp)
            · rw [if_neg c10] at H
              exact absurd H (by simp)
          · rw [if_neg c9] at H
            exact absurd H (by simp)
        · rw [if_neg c8] at H
          exact absurd H (by simp)

/-! ### octets_GetId: function 40 -/
def octets_GetId.f (k : Nat) (l0 : List Int) (a1 : Int) : Option (Int × Bool) := (octets_Signed.f k l0 a1 8).bind fun bt173 => (some (IntKind.u64.wrap (bt173.1), bt173.2))
theorem octets_GetId.mono : ∀ a0 a1 k, LeO (octets_GetId.f k a0 a1) (octets_GetId.f (k + 1) a0 a1) := by
  intro a0 a1 k
  unfold octets_GetId.f
  repeat' first
      | (with_reducible exact octets_Signed.mono _ _ _ _)
      | (with_reducible exact LeO.refl _)
      | (with_reducible exact LeO.none _)
      | (with_reducible refine LeO.ite ?_ ?_)
      | (with_reducible refine LeO.bind ?_ (fun _ => ?_))
      | exact octets_Signed.mono _ _ _ _
      | exact LeO.none _
      | refine LeO.ite ?_ ?_
      | refine LeO.bind ?_ (fun _ => ?_)
set_option maxHeartbeats 8000000 in
set_option maxRecDepth 100000 in
theorem octets_GetId.calls (k : Nat) (A0 : Option Addr) (c0 : Nat) (l0 : List Int) (a1 : Int) (r1 : Int) (r2 : Bool) (w : World) (hr0 : Kd.C (Kd.int .u8) w A0 l0.length l0) (hc0 : l0.length ≤ c0) (h : octets_GetId.f k l0 a1 = some (r1, r2)) :
    Calls Try.prog 40 #[.slice A0 l0.length c0, .int .i64 a1] w fun e w' => e = .returned (.tuple #[.int .u64 r1, .bool r2]) ∧ Drawn0 w w' := by
  have HR0 := Aside0.mk hr0
  have HC0 := Aside0.mk hc0
  clear hr0 hc0
  have H : ((octets_Signed.f k l0 a1 8).bind fun bt173 => (some (IntKind.u64.wrap (bt173.1), bt173.2))) = some (r1, r2) := h
  clear h
  replace H := Option.bind_eq_some_iff.mp H
  obtain ⟨⟨t173, t174⟩, A30, H⟩ := H
  replace H : (some (IntKind.u64.wrap (t173), t174)) = some (r1, r2) := H
  have A3 := Aside0.mk A30
  clear A30
  simp only [Option.some.injEq, Prod.mk.injEq] at H
  obtain ⟨rfl, rfl⟩ := H
  go_enter Try.func40, Try.ntmps40
  go_wp2_with (first | ((with_reducible refine gate_callee (f := 31) rfl ?_); refine goesL_ (some 11) rfl rfl Try.func31 (by kernel_rfl) rfl #[.slice A0 l0.length c0, .int .i64 a1, .int .i64 8] rfl (by (try simp only [List.map_toArray, List.map_cons, List.map_nil]); first | done | rfl | (simp only [List.length_drop, List.length_take]; rfl)) ?_; (with_reducible refine (octets_Signed.calls k _ _ l0 a1 8 t173 t174 _ ?side1 ?side2 A3.out).mono ?_); (case side1 => repeat (first | exact HR0.out | (with_reducible refine Kd.C_alloc ?_ _) | (with_reducible refine Kd.C_drewN ?_ _) | (with_reducible refine Kd.C_drew ?_))); (case side2 => exact HC0.out); rintro e w' ⟨rfl, ⟨nd, rfl⟩⟩; refine ⟨_, rfl, ?_⟩))
  go_ret2
  exact ⟨by first | rfl | (simp; done) | (simp [*]; done), by repeat (first | exact Drawn0.refl _ | apply Drawn0.step)⟩

end Go.Proofs.Ytcflafkafbpibaa.P
