/- Functions and loops of the given program as Lean functions, and that the code comes to what they say: written by this session's own program; Lean checks it. -/
import Derived.Test.YtcflafkafbpibaaPx0
import Derived.Test.YtcflafkafbpibaaPx1
import Derived.Test.YtcflafkafbpibaaPx3
import Derived.Test.YtcflafkafbpibaaPx4
import Derived.Test.YtcflafkafbpibaaPx6
namespace Go.Proofs.Ytcflafkafbpibaa.P
open Go.RowKit Go.Proofs.YtcflafkafbpibaaW.PrintWords Go.Proofs.YtcflafkafbpibaaW.PrintLast Go.Proofs.YtcflafkafbpibaaW.PrintMore
attribute [local go_sem] max2_int min2_int max_two min_two max_three min_three max_four min_four   -- for this text's walks alone
set_option linter.unusedVariables false
set_option linter.unusedSimpArgs false

/-! ### carillonlaw06_awake: function 16 -/
def carillonlaw06_awake.f (k : Nat)  : Option (Bool) := (header_Put.f k 0 0 0 0 0 0 0 0 0 0 0 0 0 0 0 0 0 0 0 0 0 0 0 44).bind fun bt181 => (if bt181.2 = true then (if (bt181.1.length : Int) = 34 then (if 4 ≤ (bt181.1.length : Int) then (if (strOfNums (bt181.1.take 4)).toList = ([0, 18, 0, 44] : List UInt8) then ((header_Known.f k 13).bind fun t189 => (if t189 = true then ((header_Known.f k 4).bind fun t190 => (some (!t190))) else (some false))) else (some false)) else (none)) else (some false)) else (some false))
theorem carillonlaw06_awake.mono : ∀ k, LeO (carillonlaw06_awake.f k ) (carillonlaw06_awake.f (k + 1) ) := by
  intro  k
  unfold carillonlaw06_awake.f
  repeat' first
      | (with_reducible exact header_Known.mono _ _)
      | (with_reducible exact header_Put.mono _ _ _ _ _ _ _ _ _ _ _ _ _ _ _ _ _ _ _ _ _ _ _ _ _)
      | (with_reducible exact LeO.refl _)
      | (with_reducible exact LeO.none _)
      | (with_reducible refine LeO.ite ?_ ?_)
      | (with_reducible refine LeO.bind ?_ (fun _ => ?_))
      | exact header_Known.mono _ _
      | exact header_Put.mono _ _ _ _ _ _ _ _ _ _ _ _ _ _ _ _ _ _ _ _ _ _ _ _ _
      | exact LeO.none _
      | refine LeO.ite ?_ ?_
      | refine LeO.bind ?_ (fun _ => ?_)
set_option maxHeartbeats 8000000 in
set_option maxRecDepth 100000 in
theorem carillonlaw06_awake.calls (k : Nat)  (r : Bool) (w : World) (h : carillonlaw06_awake.f k  = some r) :
    Calls Try.prog 16 #[] w fun e w' => e = .returned (.bool r) ∧ Below w.heap.size w w' := by
  have hu28 := Try.underlying28
  have HB := Aside0.mk (Below.refl w.heap.size w)
  have H : ((header_Put.f k 0 0 0 0 0 0 0 0 0 0 0 0 0 0 0 0 0 0 0 0 0 0 0 44).bind fun bt181 => (if bt181.2 = true then (if (bt181.1.length : Int) = 34 then (if 4 ≤ (bt181.1.length : Int) then (if (strOfNums (bt181.1.take 4)).toList = ([0, 18, 0, 44] : List UInt8) then ((header_Known.f k 13).bind fun t189 => (if t189 = true then ((header_Known.f k 4).bind fun t190 => (some (!t190))) else (some false))) else (some false)) else (none)) else (some false)) else (some false))) = some r := h
  clear h
  replace H := Option.bind_eq_some_iff.mp H
  obtain ⟨⟨t181, t184⟩, A10, H⟩ := H
  replace H : (if t184 = true then (if (t181.length : Int) = 34 then (if 4 ≤ (t181.length : Int) then (if (strOfNums (t181.take 4)).toList = ([0, 18, 0, 44] : List UInt8) then ((header_Known.f k 13).bind fun t189 => (if t189 = true then ((header_Known.f k 4).bind fun t190 => (some (!t190))) else (some false))) else (some false)) else (none)) else (some false)) else (some false)) = some r := H
  have A1 := Aside0.mk A10
  clear A10
  by_cases c2 : t184 = true
  · subst c2
    have H1 : (if (t181.length : Int) = 34 then (if 4 ≤ (t181.length : Int) then (if (strOfNums (t181.take 4)).toList = ([0, 18, 0, 44] : List UInt8) then ((header_Known.f k 13).bind fun t189 => (if t189 = true then ((header_Known.f k 4).bind fun t190 => (some (!t190))) else (some false))) else (some false)) else (none)) else (some false)) = some r := by rw [if_pos rfl] at H; exact H
    clear H
    have H := H1
    clear H1
    by_cases c3 : (t181.length : Int) = 34
    · rw [if_pos c3] at H
      have c3b0 : ((t181.length : Int) == 34) = true := beq_iff_eq.mpr c3
      have c3b1 : ((t181.length : Int) != 34) = false := bne_eq_false_iff_eq.mpr c3
      clear c3
      by_cases c4 : 4 ≤ (t181.length : Int)
      · rw [if_pos c4] at H
        have c4b0 := eq_true c4
        have c4b1 : decide (4 ≤ (t181.length : Int)) = true := decide_eq_true c4
        clear c4
        obtain ⟨y185, hy185⟩ : ∃ y_ : List Int, y_ = (t181.take 4) := ⟨_, rfl⟩
        replace H : (if (strOfNums y185).toList = ([0, 18, 0, 44] : List UInt8) then ((header_Known.f k 13).bind fun t189 => (if t189 = true then ((header_Known.f k 4).bind fun t190 => (some (!t190))) else (some false))) else (some false)) = some r := by first | (rw [hy185]; with_reducible exact H) | (have H2_ := (Option.bind_some _ _).symm.trans H; rw [hy185]; with_reducible exact H2_) | (have H2_ := (Option.bind_some _ _).symm.trans H; with_reducible exact H2_) | with_reducible exact H | (rw [hy185]; exact H) | exact H
        have Ny185 := Aside0.mk hy185
        clear hy185
        by_cases c5 : (strOfNums y185).toList = ([0, 18, 0, 44] : List UInt8)
        · rw [if_pos c5] at H
          have c5b0 : ((strOfNums y185).toList == ([0, 18, 0, 44] : List UInt8)) = true := beq_iff_eq.mpr c5
          have c5b1 : ((strOfNums y185).toList != ([0, 18, 0, 44] : List UInt8)) = false := bne_eq_false_iff_eq.mpr c5
          clear c5
          replace H := Option.bind_eq_some_iff.mp H
          obtain ⟨t189, A60, H⟩ := H
          replace H : (if t189 = true then ((header_Known.f k 4).bind fun t190 => (some (!t190))) else (some false)) = some r := H
          have A6 := Aside0.mk A60
          clear A60
          by_cases c7 : t189 = true
          · subst c7
            have H1 : ((header_Known.f k 4).bind fun t190 => (some (!t190))) = some r := by rw [if_pos rfl] at H; exact H
            clear H
            have H := H1
            clear H1
            replace H := Option.bind_eq_some_iff.mp H
            obtain ⟨t190, A80, H⟩ := H
            replace H : (some (!t190)) = some r := H
            have A8 := Aside0.mk A80
            clear A80
            obtain rfl := Option.some.inj H
            go_enter Try.func16, Try.ntmps16
            go_wp2_with (first | ((with_reducible refine gate_callee (f := 10) rfl ?_); refine goesL_ (some 5) rfl rfl Try.func10 (by kernel_rfl) rfl #[.agg #[.int .i64 0, .int .i64 0, .int .i64 0, .int .i64 0, .int .u64 0, .int .i64 0, .int .i64 0, .int .i64 0, .int .i64 0, .int .u64 0, .int .i64 0, .int .i64 0, .int .i64 0, .int .i64 0, .int .i64 0, .int .i64 0, .int .i64 0, .int .u64 0, .int .i64 0, .int .i64 0, .int .i64 0, .int .i64 0, .int .i64 0], .int .i64 44] rfl (by (try simp only [List.map_toArray, List.map_cons, List.map_nil]); first | done | rfl | (simp only [List.length_drop, List.length_take]; rfl)) ?_; (with_reducible refine (header_Put.calls k 0 0 0 0 0 0 0 0 0 0 0 0 0 0 0 0 0 0 0 0 0 0 0 44 t181 true _ A1.out).mono ?_); rintro e w9 ⟨v182, rfl, ho0, hb⟩; refine ⟨_, rfl, ?_⟩; have n0_ := Aside0.mk (Kd.R_lower ho0 (below_size (by repeat (first | (with_reducible first | exact HB.out | apply below_alloc | apply pw_below_drewN | apply below_drew1) | exact HB.out)))); have n1_ := Aside0.mk (below_step (by repeat (first | (with_reducible first | exact HB.out | apply below_alloc | apply pw_below_drewN | apply below_drew1) | exact HB.out)) hb); clear HB; have HO183 := n0_; have HB := n1_; clear n0_ n1_; (try clear hb); (try clear hb2); (try clear hk); (try clear hi); (try clear ho0); obtain ⟨Ao10, co10, eo10⟩ := Kd.R_slice HO183.out; subst eo10; have q11 : (4 : Int) ≤ ((t181.length : Int) : Int) := of_decide_eq_true (by first | (with_reducible assumption) | assumption); obtain ⟨i011, hi011, _, hsz11, _⟩ := info_parts info5; have hroom11 : t181.length ≤ co10 := (Kd.R_reads' HO183.out).2.1; have hC11 : Kd.C (Kd.int .u8) _ Ao10 t181.length t181 := (Kd.R_reads' HO183.out).2.2; have hcut11 := cut_to (P := Try.prog) 29 5 .i64 Try.underlying29 hi011 Ao10 t181.length co10 4 (by omega) q11 hroom11; have hr11 := Kd.C_take (m := 4) hC11 (by omega); have hy11 : y185.length = (4 : Int).toNat := (by rw [Ny185.out, List.length_take]; omega); rw [← Ny185.out] at hr11; rw [← hy11] at hcut11; have HR188 := Aside0.mk hr11; have HC188 := Aside0.mk (show y185.length ≤ co10 from by omega); clear hr11 hC11 hroom11 hi011 hsz11; have KY11 := Aside0.mk hy11; clear hy11; have KL11 := Aside0.mk (show 4 ≤ t181.length from by omega); replace q11 := eq_true q11; have hcv12 := Kd.C_string (P := Try.prog) (A := Ao10) (c := co10) Try.underlying29 Try.underlying5 Try.underlying9 (by repeat (first | (with_reducible exact HR188.out) | (with_reducible refine Kd.C_alloc ?_ _) | (with_reducible refine Kd.C_drewN ?_ _) | (with_reducible refine Kd.C_drew ?_) | exact HR188.out))) | (go_at_call 14; (with_reducible refine (header_Known.calls k 13 true _ A6.out).mono ?_); rintro e w' ⟨rfl, ⟨nd, rfl⟩⟩) | (go_at_call 14; (with_reducible refine (header_Known.calls k 4 t190 _ A8.out).mono ?_); rintro e w' ⟨rfl, ⟨nd, rfl⟩⟩))
            all_goals
              go_ret
              exact ⟨by first | rfl | (simp [errW_none, errW_some] <;> rfl) | (simp [*, errW_none, errW_some] <;> rfl), by repeat (first | (with_reducible first | exact HB.out | apply below_alloc | apply pw_below_drewN | apply below_drew1) | exact HB.out)⟩
          · replace c7 := Bool.eq_false_iff.mpr c7
            subst c7
            have H1 : (some false) = some r := by rw [if_neg (show ¬ (false = true) by decide)] at H; exact H
            clear H
            have H := H1
            clear H1
            obtain rfl := Option.some.inj H
            go_enter Try.func16, Try.ntmps16
            go_wp2_with (first | ((with_reducible refine gate_callee (f := 10) rfl ?_); refine goesL_ (some 5) rfl rfl Try.func10 (by kernel_rfl) rfl #[.agg #[.int .i64 0, .int .i64 0, .int .i64 0, .int .i64 0, .int .u64 0, .int .i64 0, .int .i64 0, .int .i64 0, .int .i64 0, .int .u64 0, .int .i64 0, .int .i64 0, .int .i64 0, .int .i64 0, .int .i64 0, .int .i64 0, .int .i64 0, .int .u64 0, .int .i64 0, .int .i64 0, .int .i64 0, .int .i64 0, .int .i64 0], .int .i64 44] rfl (by (try simp only [List.map_toArray, List.map_cons, List.map_nil]); first | done | rfl | (simp only [List.length_drop, List.length_take]; rfl)) ?_; (with_reducible refine (header_Put.calls k 0 0 0 0 0 0 0 0 0 0 0 0 0 0 0 0 0 0 0 0 0 0 0 44 t181 true _ A1.out).mono ?_); rintro e w13 ⟨v182, rfl, ho0, hb⟩; refine ⟨_, rfl, ?_⟩; have n0_ := Aside0.mk (Kd.R_lower ho0 (below_size (by repeat (first | (with_reducible first | exact HB.out | apply below_alloc | apply pw_below_drewN | apply below_drew1) | exact HB.out)))); have n1_ := Aside0.mk (below_step (by repeat (first | (with_reducible first | exact HB.out | apply below_alloc | apply pw_below_drewN | apply below_drew1) | exact HB.out)) hb); clear HB; have HO183 := n0_; have HB := n1_; clear n0_ n1_; (try clear hb); (try clear hb2); (try clear hk); (try clear hi); (try clear ho0); obtain ⟨Ao14, co14, eo14⟩ := Kd.R_slice HO183.out; subst eo14; have q15 : (4 : Int) ≤ ((t181.length : Int) : Int) := of_decide_eq_true (by first | (with_reducible assumption) | assumption); obtain ⟨i015, hi015, _, hsz15, _⟩ := info_parts info5; have hroom15 : t181.length ≤ co14 := (Kd.R_reads' HO183.out).2.1; have hC15 : Kd.C (Kd.int .u8) _ Ao14 t181.length t181 := (Kd.R_reads' HO183.out).2.2; have hcut15 := cut_to (P := Try.prog) 29 5 .i64 Try.underlying29 hi015 Ao14 t181.length co14 4 (by omega) q15 hroom15; have hr15 := Kd.C_take (m := 4) hC15 (by omega); have hy15 : y185.length = (4 : Int).toNat := (by rw [Ny185.out, List.length_take]; omega); rw [← Ny185.out] at hr15; rw [← hy15] at hcut15; have HR188 := Aside0.mk hr15; have HC188 := Aside0.mk (show y185.length ≤ co14 from by omega); clear hr15 hC15 hroom15 hi015 hsz15; have KY15 := Aside0.mk hy15; clear hy15; have KL15 := Aside0.mk (show 4 ≤ t181.length from by omega); replace q15 := eq_true q15; have hcv16 := Kd.C_string (P := Try.prog) (A := Ao14) (c := co14) Try.underlying29 Try.underlying5 Try.underlying9 (by repeat (first | (with_reducible exact HR188.out) | (with_reducible refine Kd.C_alloc ?_ _) | (with_reducible refine Kd.C_drewN ?_ _) | (with_reducible refine Kd.C_drew ?_) | exact HR188.out))) | (go_at_call 14; (with_reducible refine (header_Known.calls k 13 false _ A6.out).mono ?_); rintro e w' ⟨rfl, ⟨nd, rfl⟩⟩))
            all_goals
              go_ret
              exact ⟨by first | rfl | (simp [errW_none, errW_some] <;> rfl) | (simp [*, errW_none, errW_some] <;> rfl), by repeat (first | (with_reducible first | exact HB.out | apply below_alloc | apply pw_below_drewN | apply below_drew1) | exact HB.out)⟩
        · rw [if_neg c5] at H
          have c5b0 : ((strOfNums y185).toList == ([0, 18, 0, 44] : List UInt8)) = false := beq_eq_false_iff_ne.mpr c5
          have c5b1 : ((strOfNums y185).toList != ([0, 18, 0, 44] : List UInt8)) = true := bne_iff_ne.mpr c5
          obtain rfl := Option.some.inj H
          go_enter Try.func16, Try.ntmps16
          go_wp2_with (first | ((with_reducible refine gate_callee (f := 10) rfl ?_); refine goesL_ (some 5) rfl rfl Try.func10 (by kernel_rfl) rfl #[.agg #[.int .i64 0, .int .i64 0, .int .i64 0, .int .i64 0, .int .u64 0, .int .i64 0, .int .i64 0, .int .i64 0, .int .i64 0, .int .u64 0, .int .i64 0, .int .i64 0, .int .i64 0, .int .i64 0, .int .i64 0, .int .i64 0, .int .i64 0, .int .u64 0, .int .i64 0, .int .i64 0, .int .i64 0, .int .i64 0, .int .i64 0], .int .i64 44] rfl (by (try simp only [List.map_toArray, List.map_cons, List.map_nil]); first | done | rfl | (simp only [List.length_drop, List.length_take]; rfl)) ?_; (with_reducible refine (header_Put.calls k 0 0 0 0 0 0 0 0 0 0 0 0 0 0 0 0 0 0 0 0 0 0 0 44 t181 true _ A1.out).mono ?_); rintro e w17 ⟨v182, rfl, ho0, hb⟩; refine ⟨_, rfl, ?_⟩; have n0_ := Aside0.mk (Kd.R_lower ho0 (below_size (by repeat (first | (with_reducible first | exact HB.out | apply below_alloc | apply pw_below_drewN | apply below_drew1) | exact HB.out)))); have n1_ := Aside0.mk (below_step (by repeat (first | (with_reducible first | exact HB.out | apply below_alloc | apply pw_below_drewN | apply below_drew1) | exact HB.out)) hb); clear HB; have HO183 := n0_; have HB := n1_; clear n0_ n1_; (try clear hb); (try clear hb2); (try clear hk); (try clear hi); (try clear ho0); obtain ⟨Ao18, co18, eo18⟩ := Kd.R_slice HO183.out; subst eo18; have q19 : (4 : Int) ≤ ((t181.length : Int) : Int) := of_decide_eq_true (by first | (with_reducible assumption) | assumption); obtain ⟨i019, hi019, _, hsz19, _⟩ := info_parts info5; have hroom19 : t181.length ≤ co18 := (Kd.R_reads' HO183.out).2.1; have hC19 : Kd.C (Kd.int .u8) _ Ao18 t181.length t181 := (Kd.R_reads' HO183.out).2.2; have hcut19 := cut_to (P := Try.prog) 29 5 .i64 Try.underlying29 hi019 Ao18 t181.length co18 4 (by omega) q19 hroom19; have hr19 := Kd.C_take (m := 4) hC19 (by omega); have hy19 : y185.length = (4 : Int).toNat := (by rw [Ny185.out, List.length_take]; omega); rw [← Ny185.out] at hr19; rw [← hy19] at hcut19; have HR188 := Aside0.mk hr19; have HC188 := Aside0.mk (show y185.length ≤ co18 from by omega); clear hr19 hC19 hroom19 hi019 hsz19; have KY19 := Aside0.mk hy19; clear hy19; have KL19 := Aside0.mk (show 4 ≤ t181.length from by omega); replace q19 := eq_true q19; have hcv20 := Kd.C_string (P := Try.prog) (A := Ao18) (c := co18) Try.underlying29 Try.underlying5 Try.underlying9 (by repeat (first | (with_reducible exact HR188.out) | (with_reducible refine Kd.C_alloc ?_ _) | (with_reducible refine Kd.C_drewN ?_ _) | (with_reducible refine Kd.C_drew ?_) | exact HR188.out))))
          all_goals
            go_ret
            exact ⟨by first | rfl | (simp [errW_none, errW_some] <;> rfl) | (simp [*, errW_none, errW_some] <;> rfl), by repeat (first | (with_reducible first | exact HB.out | apply below_alloc | apply pw_below_drewN | apply below_drew1) | exact HB.out)⟩
      · rw [if_neg c4] at H
        exact absurd H (by simp)
    · rw [if_neg c3] at H
      have c3b0 : ((t181.length : Int) == 34) = false := beq_eq_false_iff_ne.mpr c3
      have c3b1 : ((t181.length : Int) != 34) = true := bne_iff_ne.mpr c3
      obtain rfl := Option.some.inj H
      go_enter Try.func16, Try.ntmps16
      go_wp2_with (first | ((with_reducible refine gate_callee (f := 10) rfl ?_); refine goesL_ (some 5) rfl rfl Try.func10 (by kernel_rfl) rfl #[.agg #[.int .i64 0, .int .i64 0, .int .i64 0, .int .i64 0, .int .u64 0, .int .i64 0, .int .i64 0, .int .i64 0, .int .i64 0, .int .u64 0, .int .i64 0, .int .i64 0, .int .i64 0, .int .i64 0, .int .i64 0, .int .i64 0, .int .i64 0, .int .u64 0, .int .i64 0, .int .i64 0, .int .i64 0, .int .i64 0, .int .i64 0], .int .i64 44] rfl (by (try simp only [List.map_toArray, List.map_cons, List.map_nil]); first | done | rfl | (simp only [List.length_drop, List.length_take]; rfl)) ?_; (with_reducible refine (header_Put.calls k 0 0 0 0 0 0 0 0 0 0 0 0 0 0 0 0 0 0 0 0 0 0 0 44 t181 true _ A1.out).mono ?_); rintro e w21 ⟨v182, rfl, ho0, hb⟩; refine ⟨_, rfl, ?_⟩; have n0_ := Aside0.mk (Kd.R_lower ho0 (below_size (by repeat (first | (with_reducible first | exact HB.out | apply below_alloc | apply pw_below_drewN | apply below_drew1) | exact HB.out)))); have n1_ := Aside0.mk (below_step (by repeat (first | (with_reducible first | exact HB.out | apply below_alloc | apply pw_below_drewN | apply below_drew1) | exact HB.out)) hb); clear HB; have HO183 := n0_; have HB := n1_; clear n0_ n1_; (try clear hb); (try clear hb2); (try clear hk); (try clear hi); (try clear ho0); obtain ⟨Ao22, co22, eo22⟩ := Kd.R_slice HO183.out; subst eo22))
      all_goals
        go_ret
        exact ⟨by first | rfl | (simp [errW_none, errW_some] <;> rfl) | (simp [*, errW_none, errW_some] <;> rfl), by repeat (first | (with_reducible first | exact HB.out | apply below_alloc | apply pw_below_drewN | apply below_drew1) | exact HB.out)⟩
  · replace c2 := Bool.eq_false_iff.mpr c2
    subst c2
    have H1 : (some false) = some r := by rw [if_neg (show ¬ (false = true) by decide)] at H; exact H
    clear H
    have H := H1
    clear H1
    obtain rfl := Option.some.inj H
    go_enter Try.func16, Try.ntmps16
    go_wp2_with (first | ((with_reducible refine gate_callee (f := 10) rfl ?_); refine goesL_ (some 5) rfl rfl Try.func10 (by kernel_rfl) rfl #[.agg #[.int .i64 0, .int .i64 0, .int .i64 0, .int .i64 0, .int .u64 0, .int .i64 0, .int .i64 0, .int .i64 0, .int .i64 0, .int .u64 0, .int .i64 0, .int .i64 0, .int .i64 0, .int .i64 0, .int .i64 0, .int .i64 0, .int .i64 0, .int .u64 0, .int .i64 0, .int .i64 0, .int .i64 0, .int .i64 0, .int .i64 0], .int .i64 44] rfl (by (try simp only [List.map_toArray, List.map_cons, List.map_nil]); first | done | rfl | (simp only [List.length_drop, List.length_take]; rfl)) ?_; (with_reducible refine (header_Put.calls k 0 0 0 0 0 0 0 0 0 0 0 0 0 0 0 0 0 0 0 0 0 0 0 44 t181 false _ A1.out).mono ?_); rintro e w23 ⟨v182, rfl, ho0, hb⟩; refine ⟨_, rfl, ?_⟩; have n0_ := Aside0.mk (Kd.R_lower ho0 (below_size (by repeat (first | (with_reducible first | exact HB.out | apply below_alloc | apply pw_below_drewN | apply below_drew1) | exact HB.out)))); have n1_ := Aside0.mk (below_step (by repeat (first | (with_reducible first | exact HB.out | apply below_alloc | apply pw_below_drewN | apply below_drew1) | exact HB.out)) hb); clear HB; have HO183 := n0_; have HB := n1_; clear n0_ n1_; (try clear hb); (try clear hb2); (try clear hk); (try clear hi); (try clear ho0)))
    all_goals
      go_ret
      exact ⟨by first | rfl | (simp [errW_none, errW_some] <;> rfl) | (simp [*, errW_none, errW_some] <;> rfl), by repeat (first | (with_reducible first | exact HB.out | apply below_alloc | apply pw_below_drewN | apply below_drew1) | exact HB.out)⟩

/-! ### carillonlaw06_HeaderPuts: function 3: by our own printer -/
def carillonlaw06_HeaderPuts.f (k : Nat) (a0_0 : Int) (a0_1 : Int) (a0_2 : Int) (a0_3 : Int) (a0_4 : Int) (a0_5 : Int) (a0_6 : Int) (a0_7 : Int) (a0_8 : Int) (a0_9 : Int) (a0_10 : Int) (a0_11 : Int) (a0_12 : Int) (a0_13 : Int) (a0_14 : Int) (a0_15 : Int) (a0_16 : Int) (a0_17 : Int) (a0_18 : Int) (a0_19 : Int) (a0_20 : Int) (a0_21 : Int) (a0_22 : Int) (a1 : Int) : Option (Bool) := (header_Put.f k a0_0 a0_1 a0_2 a0_3 a0_4 a0_5 a0_6 a0_7 a0_8 a0_9 a0_10 a0_11 a0_12 a0_13 a0_14 a0_15 a0_16 a0_17 a0_18 a0_19 a0_20 a0_21 a0_22 a1).bind fun t6 => ((carillonref06_Put.f k a0_0 a0_1 a0_2 a0_3 a0_4 a0_5 a0_6 a0_7 a0_8 a0_9 a0_10 a0_11 a0_12 a0_13 a0_14 a0_15 a0_16 a0_17 a0_18 a0_19 a0_20 a0_21 a0_22 a1).bind fun t11 => (if (t6.2 == (decide ((t11.length : Int) > 0))) = true then (if ((strOfNums t6.1).toList == (strOfNums t11).toList) = true then ((header_Check.f k a0_0 a0_1 a0_2 a0_3 a0_4 a0_5 a0_6 a0_7 a0_8 a0_9 a0_10 a0_11 a0_12 a0_13 a0_14 a0_15 a0_16 a0_17 a0_18 a0_19 a0_20 a0_21 a0_22).bind fun t16 => ((carillonref06_Check.f a0_0 a0_1 a0_2 a0_3 a0_4 a0_5 a0_6 a0_7 a0_8 a0_9 a0_10 a0_11 a0_12 a0_13 a0_14 a0_15 a0_16 a0_17 a0_18 a0_19 a0_20 a0_21 a0_22).bind fun t17 => (if (t16 == t17) = true then ((header_Known.f k a0_0).bind fun t18 => ((carillonref06_Known.f a0_0).bind fun t19 => (if (t18 == t19) = true then ((carillonlaw06_awake.f k ).bind fun t20 => (some t20)) else (some false)))) else (some false)))) else (some false)) else (some false)))
open Go.Proofs.Ytcflafkafbpibaa.E in
set_option maxHeartbeats 8000000 in
set_option maxRecDepth 100000 in
theorem carillonlaw06_HeaderPuts.calls (k : Nat) (a0_0 : Int) (a0_1 : Int) (a0_2 : Int) (a0_3 : Int) (a0_4 : Int) (a0_5 : Int) (a0_6 : Int) (a0_7 : Int) (a0_8 : Int) (a0_9 : Int) (a0_10 : Int) (a0_11 : Int) (a0_12 : Int) (a0_13 : Int) (a0_14 : Int) (a0_15 : Int) (a0_16 : Int) (a0_17 : Int) (a0_18 : Int) (a0_19 : Int) (a0_20 : Int) (a0_21 : Int) (a0_22 : Int) (a1 : Int) (w : World) (h : carillonlaw06_HeaderPuts.f k a0_0 a0_1 a0_2 a0_3 a0_4 a0_5 a0_6 a0_7 a0_8 a0_9 a0_10 a0_11 a0_12 a0_13 a0_14 a0_15 a0_16 a0_17 a0_18 a0_19 a0_20 a0_21 a0_22 a1 = some true) :
    Calls Try.prog 3 #[.agg #[.int .i64 a0_0, .int .i64 a0_1, .int .i64 a0_2, .int .i64 a0_3, .int .u64 a0_4, .int .i64 a0_5, .int .i64 a0_6, .int .i64 a0_7, .int .i64 a0_8, .int .u64 a0_9, .int .i64 a0_10, .int .i64 a0_11, .int .i64 a0_12, .int .i64 a0_13, .int .i64 a0_14, .int .i64 a0_15, .int .i64 a0_16, .int .u64 a0_17, .int .i64 a0_18, .int .i64 a0_19, .int .i64 a0_20, .int .i64 a0_21, .int .i64 a0_22], .int .i64 a1] w fun e w' => e = .returned (.bool true) ∧ Below w.heap.size w w' := by
  have H := h
  clear h
  unfold carillonlaw06_HeaderPuts.f at H
  obtain ⟨t6, At6, H⟩ := Option.bind_eq_some_iff.mp H
  obtain ⟨t6_1, t6_2⟩ := t6
  (try dsimp only at H)
  obtain ⟨t11, At11, H⟩ := Option.bind_eq_some_iff.mp H
  by_cases c1 : (t6_2 == (decide ((t11.length : Int) > 0))) = true
  · rw [if_pos c1] at H
    by_cases c2 : ((strOfNums t6_1).toList == (strOfNums t11).toList) = true
    · rw [if_pos c2] at H
      obtain ⟨t16, At16, H⟩ := Option.bind_eq_some_iff.mp H
      obtain ⟨t17, At17, H⟩ := Option.bind_eq_some_iff.mp H
      by_cases c3 : (t16 == t17) = true
      · rw [if_pos c3] at H
        obtain ⟨t18, At18, H⟩ := Option.bind_eq_some_iff.mp H
        obtain ⟨t19, At19, H⟩ := Option.bind_eq_some_iff.mp H
        by_cases c4 : (t18 == t19) = true
        · rw [if_pos c4] at H
          obtain ⟨t20, At20, H⟩ := Option.bind_eq_some_iff.mp H
          have hret := Option.some.inj H
          clear H
          refine calls_of_wp (fn := Try.f3) (by kernel_rfl) rfl ?_
          have hS := St.enter #[.agg #[.int .i64 a0_0, .int .i64 a0_1, .int .i64 a0_2, .int .i64 a0_3, .int .u64 a0_4, .int .i64 a0_5, .int .i64 a0_6, .int .i64 a0_7, .int .i64 a0_8, .int .u64 a0_9, .int .i64 a0_10, .int .i64 a0_11, .int .i64 a0_12, .int .i64 a0_13, .int .i64 a0_14, .int .i64 a0_15, .int .i64 a0_16, .int .u64 a0_17, .int .i64 a0_18, .int .i64 a0_19, .int .i64 a0_20, .int .i64 a0_21, .int .i64 a0_22], .int .i64 a1] 48 (by simp) [(0, .agg #[.int .i64 a0_0, .int .i64 a0_1, .int .i64 a0_2, .int .i64 a0_3, .int .u64 a0_4, .int .i64 a0_5, .int .i64 a0_6, .int .i64 a0_7, .int .i64 a0_8, .int .u64 a0_9, .int .i64 a0_10, .int .i64 a0_11, .int .i64 a0_12, .int .i64 a0_13, .int .i64 a0_14, .int .i64 a0_15, .int .i64 a0_16, .int .u64 a0_17, .int .i64 a0_18, .int .i64 a0_19, .int .i64 a0_20, .int .i64 a0_21, .int .i64 a0_22]), (1, .int .i64 a1)] (by simp)
          have HB0 := Below.refl w.heap.size w
          refine wp_seq_k (fun K1 hK1 => ?_)
          refine reg_seq (N := 48) (bs := [(0, .agg #[.int .i64 a0_0, .int .i64 a0_1, .int .i64 a0_2, .int .i64 a0_3, .int .u64 a0_4, .int .i64 a0_5, .int .i64 a0_6, .int .i64 a0_7, .int .i64 a0_8, .int .u64 a0_9, .int .i64 a0_10, .int .i64 a0_11, .int .i64 a0_12, .int .i64 a0_13, .int .i64 a0_14, .int .i64 a0_15, .int .i64 a0_16, .int .u64 a0_17, .int .i64 a0_18, .int .i64 a0_19, .int .i64 a0_20, .int .i64 a0_21, .int .i64 a0_22]), (1, .int .i64 a1)]) (I := fun x => Below w.heap.size w x) (ps := [IsB #[.int .i64 a0_0, .int .i64 a0_1, .int .i64 a0_2, .int .i64 a0_3, .int .u64 a0_4, .int .i64 a0_5, .int .i64 a0_6, .int .i64 a0_7, .int .i64 a0_8, .int .u64 a0_9, .int .i64 a0_10, .int .i64 a0_11, .int .i64 a0_12, .int .i64 a0_13, .int .i64 a0_14, .int .i64 a0_15, .int .i64 a0_16, .int .u64 a0_17, .int .i64 a0_18, .int .i64 a0_19, .int .i64 a0_20, .int .i64 a0_21, .int .i64 a0_22] 28 w.heap.size, IsV (.bool false)]) (by kernel_rfl) ?_ ?_ rfl hS HB0 ?_ ?_
          · exact fun x y hI hb => below_step hI hb
          · exact AllStay.cons (Stays.b _ _ _) (AllStay.cons (Stays.v _) (AllStay.nil))
          · refine Steps.cons (fun a w hS hI hp => ok_on rfl (does_var (x_box rfl (congrArg Value.cells (hS.get 0 rfl))) (hI).size)) ?_
            refine Steps.cons (fun a w hS hI hp => ok_on rfl (does_val (x_assign rfl (rfl)) rfl)) ?_
            exact Steps.nil
          clear hS
          intro at2 w3 hS hI hp
          have hBw3_w := hI
          replace hS := (hS.nil).cons (hS.get 1 rfl)
          obtain ⟨g4, hv2, hgeg4, hbxg4⟩ := (show IsB _ 28 _ (sl _ 2) _ from hp 0 (by decide))
          have hv4 : sl _ 4 = .bool false := hp 1 (by decide)
          have hBw3_w3 := Below.refl w3.heap.size w3
          have hS := hS.cons hv2
          have hS := hS.cons hv4
          clear hp hI hv2 hv4
          refine hK1 _ _ ?_
          clear hK1 K1
          refine wp_seq_k (fun K5 hK5 => ?_)
          refine reg_seq (N := 48) (bs := [(4, .bool false), (2, .pointer (some ⟨g4, 0, none⟩)), (1, .int .i64 a1)]) (I := fun x => Below w.heap.size w x ∧ Below w3.heap.size w3 x) (ps := [IsV (.agg #[.int .i64 a0_0, .int .i64 a0_1, .int .i64 a0_2, .int .i64 a0_3, .int .u64 a0_4, .int .i64 a0_5, .int .i64 a0_6, .int .i64 a0_7, .int .i64 a0_8, .int .u64 a0_9, .int .i64 a0_10, .int .i64 a0_11, .int .i64 a0_12, .int .i64 a0_13, .int .i64 a0_14, .int .i64 a0_15, .int .i64 a0_16, .int .u64 a0_17, .int .i64 a0_18, .int .i64 a0_19, .int .i64 a0_20, .int .i64 a0_21, .int .i64 a0_22]), IsV (.int .i64 a1), IsTR (Kd.int .u8) 5 w3.heap.size t6_1 [.bool t6_2], IsTR (Kd.int .u8) 5 w3.heap.size t6_1 [.bool t6_2], IsR (Kd.int .u8) 5 w3.heap.size t6_1, IsV (.bool t6_2), IsR (Kd.int .u8) 5 w3.heap.size t6_1, IsV (.bool t6_2)]) (by kernel_rfl) ?_ ?_ rfl hS ⟨hBw3_w, hBw3_w3⟩ ?_ ?_
          · exact fun x y hI hb => ⟨below_step hI.1 hb, below_step hI.2 hb⟩
          · exact AllStay.cons (Stays.v _) (AllStay.cons (Stays.v _) (AllStay.cons (Stays.tr _ _ _ _ _) (AllStay.cons (Stays.tr _ _ _ _ _) (AllStay.cons (Stays.r _ _ _ _) (AllStay.cons (Stays.v _) (AllStay.cons (Stays.r _ _ _ _) (AllStay.cons (Stays.v _) (AllStay.nil))))))))
          · refine Steps.cons (fun a w hS hI hp => ok_on rfl (does_loadrow rfl (hS.get 1 rfl) (((hI.2).block g4 (blk_lt hbxg4)).trans hbxg4) Try.underlying28 rfl (by kernel_rfl) rfl)) ?_
            refine Steps.cons (fun a w hS hI hp => ok_on rfl (does_val (x_move rfl (hS.get 2 rfl)) rfl)) ?_
            refine Steps.cons (fun a w hS hI hp => ok_on rfl (does_call (by kernel_rfl) (ar2 ((hp.get 0 (by rfl) rfl rfl)) ((hp.get 1 (by rfl) rfl rfl))) ((header_Put.calls k a0_0 a0_1 a0_2 a0_3 a0_4 a0_5 a0_6 a0_7 a0_8 a0_9 a0_10 a0_11 a0_12 a0_13 a0_14 a0_15 a0_16 a0_17 a0_18 a0_19 a0_20 a0_21 a0_22 a1 t6_1 t6_2 _  At6).mono fun _ _ h => h.elim fun v0 h => ⟨_, h.1, h.2.2, v0, rfl, Kd.R_lower h.2.1 hI.2.size⟩))) ?_
            refine Steps.cons (fun a w hS hI hp => ok_on rfl (does_val (x_move rfl rfl) ((hp.get 2 (by rfl) rfl rfl)))) ?_
            refine Steps.cons (fun a w hS hI hp => ok_on rfl (((hp.get 3 (by rfl) rfl rfl)).elim fun v0 h0 => does_val (x_extract rfl h0.1 rfl) h0.2)) ?_
            refine Steps.cons (fun a w hS hI hp => ok_on rfl (((hp.get 3 (by rfl) rfl rfl)).elim fun v0 h0 => does_val (x_extract rfl h0.1 rfl) rfl)) ?_
            refine Steps.cons (fun a w hS hI hp => ok_on rfl (does_val (x_assign rfl rfl) ((hp.get 4 (by rfl) rfl rfl)))) ?_
            refine Steps.cons (fun a w hS hI hp => ok_on rfl (does_val (x_assign rfl ((hp.get 5 (by rfl) rfl rfl))) rfl)) ?_
            exact Steps.nil
          clear hS
          intro at7 w8 hS hI hp
          have hBw8_w := hI.1
          have hBw8_w3 := hI.2
          obtain ⟨A9, C9, hv5, hl9, hc9⟩ := Kd.R_reads (show Kd.R (Kd.int .u8) 5 w8 w3.heap.size (fun _ => True) (sl _ 5) t6_1 from hp 6 (by decide))
          have ho9 : Kd.R (Kd.int .u8) 5 w8 w3.heap.size (fun _ => True) (.slice A9 t6_1.length C9) t6_1 := hv5 ▸ (hp 6 (by decide))
          have hv6 : sl _ 6 = .bool t6_2 := hp 7 (by decide)
          have hBw8_w8 := Below.refl w8.heap.size w8
          have hS := hS.cons hv5
          have hS := hS.cons hv6
          clear hp hI hv5 hv6
          refine hK5 _ _ ?_
          clear hK5 K5
          refine wp_seq_k (fun K10 hK10 => ?_)
          refine reg_seq (N := 48) (bs := [(6, .bool t6_2), (5, .slice A9 t6_1.length C9), (4, .bool false), (2, .pointer (some ⟨g4, 0, none⟩)), (1, .int .i64 a1)]) (I := fun x => Below w.heap.size w x ∧ Below w3.heap.size w3 x ∧ Below w8.heap.size w8 x) (ps := [IsV (.agg #[.int .i64 a0_0, .int .i64 a0_1, .int .i64 a0_2, .int .i64 a0_3, .int .u64 a0_4, .int .i64 a0_5, .int .i64 a0_6, .int .i64 a0_7, .int .i64 a0_8, .int .u64 a0_9, .int .i64 a0_10, .int .i64 a0_11, .int .i64 a0_12, .int .i64 a0_13, .int .i64 a0_14, .int .i64 a0_15, .int .i64 a0_16, .int .u64 a0_17, .int .i64 a0_18, .int .i64 a0_19, .int .i64 a0_20, .int .i64 a0_21, .int .i64 a0_22]), IsV (.int .i64 a1), IsR (Kd.int .u8) 5 w8.heap.size t11, IsR (Kd.int .u8) 5 w8.heap.size t11]) (by kernel_rfl) ?_ ?_ rfl hS ⟨hBw8_w, hBw8_w3, hBw8_w8⟩ ?_ ?_
          · exact fun x y hI hb => ⟨below_step hI.1 hb, below_step hI.2.1 hb, below_step hI.2.2 hb⟩
          · exact AllStay.cons (Stays.v _) (AllStay.cons (Stays.v _) (AllStay.cons (Stays.r _ _ _ _) (AllStay.cons (Stays.r _ _ _ _) (AllStay.nil))))
          · refine Steps.cons (fun a w hS hI hp => ok_on rfl (does_loadrow rfl (hS.get 3 rfl) (((hI.2.1).block g4 (blk_lt hbxg4)).trans hbxg4) Try.underlying28 rfl (by kernel_rfl) rfl)) ?_
            refine Steps.cons (fun a w hS hI hp => ok_on rfl (does_val (x_move rfl (hS.get 4 rfl)) rfl)) ?_
            refine Steps.cons (fun a w hS hI hp => ok_on rfl (does_call (by kernel_rfl) (ar2 ((hp.get 0 (by rfl) rfl rfl)) ((hp.get 1 (by rfl) rfl rfl))) ((carillonref06_Put.calls k a0_0 a0_1 a0_2 a0_3 a0_4 a0_5 a0_6 a0_7 a0_8 a0_9 a0_10 a0_11 a0_12 a0_13 a0_14 a0_15 a0_16 a0_17 a0_18 a0_19 a0_20 a0_21 a0_22 a1 t11 _  At11).mono fun _ _ h => h.elim fun v0 h => ⟨v0, h.1, h.2.2, Kd.R_lower h.2.1 hI.2.2.size⟩))) ?_
            refine Steps.cons (fun a w hS hI hp => ok_on rfl (does_val (x_assign rfl rfl) ((hp.get 2 (by rfl) rfl rfl)))) ?_
            exact Steps.nil
          clear hS
          intro at12 w13 hS hI hp
          have hBw13_w := hI.1
          have hBw13_w3 := hI.2.1
          have hBw13_w8 := hI.2.2
          replace hS := ((((hS.nil).cons (hS.get 3 rfl)).cons (hS.get 2 rfl)).cons (hS.get 1 rfl)).cons (hS.get 0 rfl)
          obtain ⟨A14, C14, hv7, hl14, hc14⟩ := Kd.R_reads (show Kd.R (Kd.int .u8) 5 w13 w8.heap.size (fun _ => True) (sl _ 7) t11 from hp 3 (by decide))
          have ho14 : Kd.R (Kd.int .u8) 5 w13 w8.heap.size (fun _ => True) (.slice A14 t11.length C14) t11 := hv7 ▸ (hp 3 (by decide))
          have hBw13_w13 := Below.refl w13.heap.size w13
          have hS := hS.cons hv7
          clear hp hI hv7
          refine hK10 _ _ ?_
          clear hK10 K10
          refine wp_seq_k (fun K15 hK15 => ?_)
          replace hS := ((((hS.nil).cons (hS.get 4 rfl)).cons (hS.get 2 rfl)).cons (hS.get 1 rfl)).cons (hS.get 0 rfl)
          refine reg_any (N := 48) (bs := [(7, .slice A14 t11.length C14), (6, .bool t6_2), (5, .slice A9 t6_1.length C9), (2, .pointer (some ⟨g4, 0, none⟩))]) (I := fun x => Below w.heap.size w x ∧ Below w3.heap.size w3 x ∧ Below w8.heap.size w8 x ∧ Below w13.heap.size w13 x) (ps := [IsV (.bool t6_2), IsV (.slice A14 t11.length C14), IsV (.int .i64 (t11.length : Int)), IsV (.bool (decide ((t11.length : Int) > 0))), IsV (.bool (t6_2 == (decide ((t11.length : Int) > 0)))), IsV (.bool (t6_2 == (decide ((t11.length : Int) > 0)))), IsV (.slice A9 t6_1.length C9), IsV (.string (strOfNums t6_1)), IsV (.slice A14 t11.length C14), IsV (.string (strOfNums t11)), IsV (.bool ((strOfNums t6_1).toList == (strOfNums t11).toList)), IsV (.bool ((strOfNums t6_1).toList == (strOfNums t11).toList)), IsV (.bool ((strOfNums t6_1).toList == (strOfNums t11).toList)), IsV (.agg #[.int .i64 a0_0, .int .i64 a0_1, .int .i64 a0_2, .int .i64 a0_3, .int .u64 a0_4, .int .i64 a0_5, .int .i64 a0_6, .int .i64 a0_7, .int .i64 a0_8, .int .u64 a0_9, .int .i64 a0_10, .int .i64 a0_11, .int .i64 a0_12, .int .i64 a0_13, .int .i64 a0_14, .int .i64 a0_15, .int .i64 a0_16, .int .u64 a0_17, .int .i64 a0_18, .int .i64 a0_19, .int .i64 a0_20, .int .i64 a0_21, .int .i64 a0_22]), IsV (.bool t16), IsV (.agg #[.int .i64 a0_0, .int .i64 a0_1, .int .i64 a0_2, .int .i64 a0_3, .int .u64 a0_4, .int .i64 a0_5, .int .i64 a0_6, .int .i64 a0_7, .int .i64 a0_8, .int .u64 a0_9, .int .i64 a0_10, .int .i64 a0_11, .int .i64 a0_12, .int .i64 a0_13, .int .i64 a0_14, .int .i64 a0_15, .int .i64 a0_16, .int .u64 a0_17, .int .i64 a0_18, .int .i64 a0_19, .int .i64 a0_20, .int .i64 a0_21, .int .i64 a0_22]), IsV (.bool t17), IsV (.bool (t16 == t17)), IsV (.bool (t16 == t17)), IsV (.bool (t16 == t17)), IsV (.pointer (some ⟨g4, 0, none⟩)), IsV (.int .i64 a0_0), IsV (.bool t18), IsV (.pointer (some ⟨g4, 0, none⟩)), IsV (.int .i64 a0_0), IsV (.bool t19), IsV (.bool (t18 == t19)), IsV (.bool (t18 == t19)), IsV (.bool (t18 == t19)), IsV (.bool t20), IsV (.bool t20), IsV (.bool t20)]) (by kernel_rfl) (by kernel_rfl) ?_ ?_ rfl hS ⟨hBw13_w, hBw13_w3, hBw13_w8, hBw13_w13⟩ ?_ ?_
          · exact fun x y hI hb => ⟨below_step hI.1 hb, below_step hI.2.1 hb, below_step hI.2.2.1 hb, below_step hI.2.2.2 hb⟩
          · exact AllStay.cons (Stays.v _) (AllStay.cons (Stays.v _) (AllStay.cons (Stays.v _) (AllStay.cons (Stays.v _) (AllStay.cons (Stays.v _) (AllStay.cons (Stays.v _) (AllStay.cons (Stays.v _) (AllStay.cons (Stays.v _) (AllStay.cons (Stays.v _) (AllStay.cons (Stays.v _) (AllStay.cons (Stays.v _) (AllStay.cons (Stays.v _) (AllStay.cons (Stays.v _) (AllStay.cons (Stays.v _) (AllStay.cons (Stays.v _) (AllStay.cons (Stays.v _) (AllStay.cons (Stays.v _) (AllStay.cons (Stays.v _) (AllStay.cons (Stays.v _) (AllStay.cons (Stays.v _) (AllStay.cons (Stays.v _) (AllStay.cons (Stays.v _) (AllStay.cons (Stays.v _) (AllStay.cons (Stays.v _) (AllStay.cons (Stays.v _) (AllStay.cons (Stays.v _) (AllStay.cons (Stays.v _) (AllStay.cons (Stays.v _) (AllStay.cons (Stays.v _) (AllStay.cons (Stays.v _) (AllStay.cons (Stays.v _) (AllStay.cons (Stays.v _) (AllStay.nil))))))))))))))))))))))))))))))))
          · refine Steps.cons (fun a w hS hI hp => ok_on rfl (does_val (x_move rfl (hS.get 1 rfl)) rfl)) ?_
            refine Steps.cons (fun a w hS hI hp => ok_on rfl (does_val (x_move rfl (hS.get 0 rfl)) rfl)) ?_
            refine Steps.cons (fun a w hS hI hp => ok_on rfl (does_val (x_len (e := 5) rfl (by kernel_rfl) ((hp.get 1 (by rfl) rfl rfl))) rfl)) ?_
            refine Steps.cons (fun a w hS hI hp => ok_on rfl (does_val (x_bin rfl ((hp.get 2 (by rfl) rfl rfl)) (rfl) (b_gtr _ _ _ _ _ _)) rfl)) ?_
            refine Steps.cons (fun a w hS hI hp => ok_on rfl (does_val (x_bin rfl ((hp.get 0 (by rfl) rfl rfl)) ((hp.get 3 (by rfl) rfl rfl)) (b_eqb _ _ _ _ _ (by kernel_rfl))) rfl)) ?_
            refine Steps.cons (fun a w hS hI hp => ok_on rfl (does_val (x_move rfl ((hp.get 4 (by rfl) rfl rfl))) rfl)) ?_
            refine Steps.cons (fun a w hS hI hp => ok_if (d := 22) rfl rfl (by rw [hS.size]; decide) (((hp.get 5 (by rfl) rfl rfl)).trans (bT c1)) (does_val (x_move rfl (hS.get 2 rfl)) rfl)) ?_
            refine Steps.cons (fun a w hS hI hp => ok_if (d := 22) rfl rfl (by rw [hS.size]; decide) (((hp.get 5 (by rfl) rfl rfl)).trans (bT c1)) (does_val (x_conv rfl ((hp.get 6 (by rfl) rfl rfl)) (Kd.C_string (by kernel_rfl) (e := 5) (by kernel_rfl) (by kernel_rfl) (Kd.C_below hc9 hI.2.2.1))) rfl)) ?_
            refine Steps.cons (fun a w hS hI hp => ok_if (d := 22) rfl rfl (by rw [hS.size]; decide) (((hp.get 5 (by rfl) rfl rfl)).trans (bT c1)) (does_val (x_move rfl (hS.get 0 rfl)) rfl)) ?_
            refine Steps.cons (fun a w hS hI hp => ok_if (d := 22) rfl rfl (by rw [hS.size]; decide) (((hp.get 5 (by rfl) rfl rfl)).trans (bT c1)) (does_val (x_conv rfl ((hp.get 8 (by rfl) rfl rfl)) (Kd.C_string (by kernel_rfl) (e := 5) (by kernel_rfl) (by kernel_rfl) (Kd.C_below hc14 hI.2.2.2))) rfl)) ?_
            refine Steps.cons (fun a w hS hI hp => ok_if (d := 22) rfl rfl (by rw [hS.size]; decide) (((hp.get 5 (by rfl) rfl rfl)).trans (bT c1)) (does_val (x_bin rfl ((hp.get 7 (by rfl) rfl rfl)) ((hp.get 9 (by rfl) rfl rfl)) (b_eqs _ _ _ _ _)) rfl)) ?_
            refine Steps.cons (fun a w hS hI hp => ok_on rfl (does_val (x_pickT rfl (((hp.get 5 (by rfl) rfl rfl)).trans (bT c1)) ((hp.get 10 (by rfl) rfl rfl))) rfl)) ?_
            refine Steps.cons (fun a w hS hI hp => ok_on rfl (does_val (x_move rfl ((hp.get 11 (by rfl) rfl rfl))) rfl)) ?_
            refine Steps.cons (fun a w hS hI hp => ok_if (d := 29) rfl rfl (by rw [hS.size]; decide) (((hp.get 12 (by rfl) rfl rfl)).trans (bT c2)) (does_loadrow rfl (hS.get 3 rfl) (((hI.2.1).block g4 (blk_lt hbxg4)).trans hbxg4) Try.underlying28 rfl (by kernel_rfl) rfl)) ?_
            refine Steps.cons (fun a w hS hI hp => ok_if (d := 29) rfl rfl (by rw [hS.size]; decide) (((hp.get 12 (by rfl) rfl rfl)).trans (bT c2)) (does_call (by kernel_rfl) (ar1 ((hp.get 13 (by rfl) rfl rfl))) ((header_Check.calls k a0_0 a0_1 a0_2 a0_3 a0_4 a0_5 a0_6 a0_7 a0_8 a0_9 a0_10 a0_11 a0_12 a0_13 a0_14 a0_15 a0_16 a0_17 a0_18 a0_19 a0_20 a0_21 a0_22 t16 _  At16).mono fun _ _ h => ⟨_, h.1, h.2, rfl⟩))) ?_
            refine Steps.cons (fun a w hS hI hp => ok_if (d := 29) rfl rfl (by rw [hS.size]; decide) (((hp.get 12 (by rfl) rfl rfl)).trans (bT c2)) (does_loadrow rfl (hS.get 3 rfl) (((hI.2.1).block g4 (blk_lt hbxg4)).trans hbxg4) Try.underlying28 rfl (by kernel_rfl) rfl)) ?_
            refine Steps.cons (fun a w hS hI hp => ok_if (d := 29) rfl rfl (by rw [hS.size]; decide) (((hp.get 12 (by rfl) rfl rfl)).trans (bT c2)) (does_call (by kernel_rfl) (ar1 ((hp.get 15 (by rfl) rfl rfl))) ((carillonref06_Check.calls a0_0 a0_1 a0_2 a0_3 a0_4 a0_5 a0_6 a0_7 a0_8 a0_9 a0_10 a0_11 a0_12 a0_13 a0_14 a0_15 a0_16 a0_17 a0_18 a0_19 a0_20 a0_21 a0_22 t17 _  At17).mono fun _ _ h => ⟨_, h.1, h.2, rfl⟩))) ?_
            refine Steps.cons (fun a w hS hI hp => ok_if (d := 29) rfl rfl (by rw [hS.size]; decide) (((hp.get 12 (by rfl) rfl rfl)).trans (bT c2)) (does_val (x_bin rfl ((hp.get 14 (by rfl) rfl rfl)) ((hp.get 16 (by rfl) rfl rfl)) (b_eqb _ _ _ _ _ (by kernel_rfl))) rfl)) ?_
            refine Steps.cons (fun a w hS hI hp => ok_on rfl (does_val (x_pickT rfl (((hp.get 12 (by rfl) rfl rfl)).trans (bT c2)) ((hp.get 17 (by rfl) rfl rfl))) rfl)) ?_
            refine Steps.cons (fun a w hS hI hp => ok_on rfl (does_val (x_move rfl ((hp.get 18 (by rfl) rfl rfl))) rfl)) ?_
            refine Steps.cons (fun a w hS hI hp => ok_if (d := 36) rfl rfl (by rw [hS.size]; decide) (((hp.get 19 (by rfl) rfl rfl)).trans (bT c3)) (does_val (x_field rfl (hS.get 3 rfl) Try.underlying28 rfl (by kernel_rfl)) rfl)) ?_
            refine Steps.cons (fun a w hS hI hp => ok_if (d := 36) rfl rfl (by rw [hS.size]; decide) (((hp.get 19 (by rfl) rfl rfl)).trans (bT c3)) (does_val (x_load1 (d := .int .i64) rfl ((hp.get 20 (by rfl) rfl rfl)) (by kernel_rfl) rfl ((blk_cell (((hI.2.1).block g4 (blk_lt hbxg4)).trans hbxg4) 0).trans rfl)) rfl)) ?_
            refine Steps.cons (fun a w hS hI hp => ok_if (d := 36) rfl rfl (by rw [hS.size]; decide) (((hp.get 19 (by rfl) rfl rfl)).trans (bT c3)) (does_call (by kernel_rfl) (ar1 ((hp.get 21 (by rfl) rfl rfl))) ((header_Known.calls k a0_0 t18 _  At18).mono fun _ _ h => ⟨_, h.1, h.2.below, rfl⟩))) ?_
            refine Steps.cons (fun a w hS hI hp => ok_if (d := 36) rfl rfl (by rw [hS.size]; decide) (((hp.get 19 (by rfl) rfl rfl)).trans (bT c3)) (does_val (x_field rfl (hS.get 3 rfl) Try.underlying28 rfl (by kernel_rfl)) rfl)) ?_
            refine Steps.cons (fun a w hS hI hp => ok_if (d := 36) rfl rfl (by rw [hS.size]; decide) (((hp.get 19 (by rfl) rfl rfl)).trans (bT c3)) (does_val (x_load1 (d := .int .i64) rfl ((hp.get 23 (by rfl) rfl rfl)) (by kernel_rfl) rfl ((blk_cell (((hI.2.1).block g4 (blk_lt hbxg4)).trans hbxg4) 0).trans rfl)) rfl)) ?_
            refine Steps.cons (fun a w hS hI hp => ok_if (d := 36) rfl rfl (by rw [hS.size]; decide) (((hp.get 19 (by rfl) rfl rfl)).trans (bT c3)) (does_call (by kernel_rfl) (ar1 ((hp.get 24 (by rfl) rfl rfl))) ((carillonref06_Known.calls a0_0 t19 _  At19).mono fun _ _ h => ⟨_, h.1, h.2.below, rfl⟩))) ?_
            refine Steps.cons (fun a w hS hI hp => ok_if (d := 36) rfl rfl (by rw [hS.size]; decide) (((hp.get 19 (by rfl) rfl rfl)).trans (bT c3)) (does_val (x_bin rfl ((hp.get 22 (by rfl) rfl rfl)) ((hp.get 25 (by rfl) rfl rfl)) (b_eqb _ _ _ _ _ (by kernel_rfl))) rfl)) ?_
            refine Steps.cons (fun a w hS hI hp => ok_on rfl (does_val (x_pickT rfl (((hp.get 19 (by rfl) rfl rfl)).trans (bT c3)) ((hp.get 26 (by rfl) rfl rfl))) rfl)) ?_
            refine Steps.cons (fun a w hS hI hp => ok_on rfl (does_val (x_move rfl ((hp.get 27 (by rfl) rfl rfl))) rfl)) ?_
            refine Steps.cons (fun a w hS hI hp => ok_if (d := 45) rfl rfl (by rw [hS.size]; decide) (((hp.get 28 (by rfl) rfl rfl)).trans (bT c4)) (does_call (by kernel_rfl) rfl ((carillonlaw06_awake.calls k  t20 _  At20).mono fun _ _ h => ⟨_, h.1, h.2, rfl⟩))) ?_
            refine Steps.cons (fun a w hS hI hp => ok_on rfl (does_val (x_pickT rfl (((hp.get 28 (by rfl) rfl rfl)).trans (bT c4)) ((hp.get 29 (by rfl) rfl rfl))) rfl)) ?_
            refine Steps.cons (fun a w hS hI hp => ok_on rfl (does_val (x_assign rfl ((hp.get 30 (by rfl) rfl rfl))) rfl)) ?_
            exact Steps.nil
          clear hS
          intro at21 w22 hS hI hp
          have hBw22_w := hI.1
          have hBw22_w3 := hI.2.1
          have hBw22_w8 := hI.2.2.1
          have hBw22_w13 := hI.2.2.2
          replace hS := hS.nil
          have hv4 : sl _ 4 = .bool t20 := hp 31 (by decide)
          have hBw22_w22 := Below.refl w22.heap.size w22
          have hS := hS.cons hv4
          clear hp hI hv4
          refine hK15 _ _ ?_
          clear hK15 K15
          refine wp_ret ?_
          (try simp only [Exit.then, Exit.inBlock])
          exact bodyPost_ret (v := .bool true) (by rw [results_tmp rfl]; exact congrArg (Result.ok · _) ((hS.get 0 rfl).trans (congrArg Value.bool hret))) hS.nodef ⟨rfl, hBw22_w⟩
        · rw [if_neg c4] at H
          exact absurd H (by simp)
      · rw [if_neg c3] at H
        exact absurd H (by simp)
    · rw [if_neg c2] at H
      exact absurd H (by simp)
  · rw [if_neg c1] at H
    exact absurd H (by simp)

/-- The one pure statement of carillonlaw06_HeaderPuts. -/
def carillonlaw06_HeaderPuts.Pure : Prop := ∀ (a0_0 : Int) (a0_1 : Int) (a0_2 : Int) (a0_3 : Int) (a0_4 : Int) (a0_5 : Int) (a0_6 : Int) (a0_7 : Int) (a0_8 : Int) (a0_9 : Int) (a0_10 : Int) (a0_11 : Int) (a0_12 : Int) (a0_13 : Int) (a0_14 : Int) (a0_15 : Int) (a0_16 : Int) (a0_17 : Int) (a0_18 : Int) (a0_19 : Int) (a0_20 : Int) (a0_21 : Int) (a0_22 : Int) (a1 : Int), (Lit.int .i64 a0_0).wf = true → (Lit.int .i64 a0_1).wf = true → (Lit.int .i64 a0_2).wf = true → (Lit.int .i64 a0_3).wf = true → (Lit.int .u64 a0_4).wf = true → (Lit.int .i64 a0_5).wf = true → (Lit.int .i64 a0_6).wf = true → (Lit.int .i64 a0_7).wf = true → (Lit.int .i64 a0_8).wf = true → (Lit.int .u64 a0_9).wf = true → (Lit.int .i64 a0_10).wf = true → (Lit.int .i64 a0_11).wf = true → (Lit.int .i64 a0_12).wf = true → (Lit.int .i64 a0_13).wf = true → (Lit.int .i64 a0_14).wf = true → (Lit.int .i64 a0_15).wf = true → (Lit.int .i64 a0_16).wf = true → (Lit.int .u64 a0_17).wf = true → (Lit.int .i64 a0_18).wf = true → (Lit.int .i64 a0_19).wf = true → (Lit.int .i64 a0_20).wf = true → (Lit.int .i64 a0_21).wf = true → (Lit.int .i64 a0_22).wf = true → (Lit.int .i64 a1).wf = true → ∃ k, carillonlaw06_HeaderPuts.f k a0_0 a0_1 a0_2 a0_3 a0_4 a0_5 a0_6 a0_7 a0_8 a0_9 a0_10 a0_11 a0_12 a0_13 a0_14 a0_15 a0_16 a0_17 a0_18 a0_19 a0_20 a0_21 a0_22 a1 = some true
theorem carillonlaw06_HeaderPuts.walk (P : carillonlaw06_HeaderPuts.Pure) (a0_0 : Int) (a0_1 : Int) (a0_2 : Int) (a0_3 : Int) (a0_4 : Int) (a0_5 : Int) (a0_6 : Int) (a0_7 : Int) (a0_8 : Int) (a0_9 : Int) (a0_10 : Int) (a0_11 : Int) (a0_12 : Int) (a0_13 : Int) (a0_14 : Int) (a0_15 : Int) (a0_16 : Int) (a0_17 : Int) (a0_18 : Int) (a0_19 : Int) (a0_20 : Int) (a0_21 : Int) (a0_22 : Int) (a1 : Int) (w : World) (w0_0 : (Lit.int .i64 a0_0).wf = true) (w0_1 : (Lit.int .i64 a0_1).wf = true) (w0_2 : (Lit.int .i64 a0_2).wf = true) (w0_3 : (Lit.int .i64 a0_3).wf = true) (w0_4 : (Lit.int .u64 a0_4).wf = true) (w0_5 : (Lit.int .i64 a0_5).wf = true) (w0_6 : (Lit.int .i64 a0_6).wf = true) (w0_7 : (Lit.int .i64 a0_7).wf = true) (w0_8 : (Lit.int .i64 a0_8).wf = true) (w0_9 : (Lit.int .u64 a0_9).wf = true) (w0_10 : (Lit.int .i64 a0_10).wf = true) (w0_11 : (Lit.int .i64 a0_11).wf = true) (w0_12 : (Lit.int .i64 a0_12).wf = true) (w0_13 : (Lit.int .i64 a0_13).wf = true) (w0_14 : (Lit.int .i64 a0_14).wf = true) (w0_15 : (Lit.int .i64 a0_15).wf = true) (w0_16 : (Lit.int .i64 a0_16).wf = true) (w0_17 : (Lit.int .u64 a0_17).wf = true) (w0_18 : (Lit.int .i64 a0_18).wf = true) (w0_19 : (Lit.int .i64 a0_19).wf = true) (w0_20 : (Lit.int .i64 a0_20).wf = true) (w0_21 : (Lit.int .i64 a0_21).wf = true) (w0_22 : (Lit.int .i64 a0_22).wf = true) (w1 : (Lit.int .i64 a1).wf = true) :
    Calls Try.prog 3 #[.agg #[.int .i64 a0_0, .int .i64 a0_1, .int .i64 a0_2, .int .i64 a0_3, .int .u64 a0_4, .int .i64 a0_5, .int .i64 a0_6, .int .i64 a0_7, .int .i64 a0_8, .int .u64 a0_9, .int .i64 a0_10, .int .i64 a0_11, .int .i64 a0_12, .int .i64 a0_13, .int .i64 a0_14, .int .i64 a0_15, .int .i64 a0_16, .int .u64 a0_17, .int .i64 a0_18, .int .i64 a0_19, .int .i64 a0_20, .int .i64 a0_21, .int .i64 a0_22], .int .i64 a1] w fun e w' => e = .returned (.bool true) ∧ Below w.heap.size w w' := by
  obtain ⟨k, h⟩ := P a0_0 a0_1 a0_2 a0_3 a0_4 a0_5 a0_6 a0_7 a0_8 a0_9 a0_10 a0_11 a0_12 a0_13 a0_14 a0_15 a0_16 a0_17 a0_18 a0_19 a0_20 a0_21 a0_22 a1 w0_0 w0_1 w0_2 w0_3 w0_4 w0_5 w0_6 w0_7 w0_8 w0_9 w0_10 w0_11 w0_12 w0_13 w0_14 w0_15 w0_16 w0_17 w0_18 w0_19 w0_20 w0_21 w0_22 w1
  refine (carillonlaw06_HeaderPuts.calls k a0_0 a0_1 a0_2 a0_3 a0_4 a0_5 a0_6 a0_7 a0_8 a0_9 a0_10 a0_11 a0_12 a0_13 a0_14 a0_15 a0_16 a0_17 a0_18 a0_19 a0_20 a0_21 a0_22 a1 w  h).mono ?_
  rintro e w' ⟨rfl, hd⟩
  exact ⟨rfl, hd⟩

end Go.Proofs.Ytcflafkafbpibaa.P
