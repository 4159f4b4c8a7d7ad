/- Functions and loops of the given program as Lean functions, and that the code comes to what they say: written by this session's own program; Lean checks it. -/
import Derived.Test.YtgmiokocipmbaaaZzPx0
import Derived.Test.YtgmiokocipmbaaaZzPx2
import Derived.Test.YtgmiokocipmbaaaZzPx3
import Derived.Test.YtgmiokocipmbaaaZzPx4
import Derived.Test.YtgmiokocipmbaaaZzPx6
import Derived.Test.YtgmiokocipmbaaaZzPx8
namespace Go.Proofs.Ytgmiokocipmbaaa.P
open Go.RowKit Go.Proofs.YtgmiokocipmbaaaW.PrintWords Go.Proofs.YtgmiokocipmbaaaW.PrintLast Go.Proofs.YtgmiokocipmbaaaW.PrintMore
attribute [local go_sem] max2_int min2_int max_two min_two max_three min_three max_four min_four   -- for this text's walks alone
set_option linter.unusedVariables false
set_option linter.unusedSimpArgs false
/-! ### tlv_Fault: function 31 -/
def tlv_Fault.j0 : Nat → Int → Int → Bool → Option (Int × ByteArray × Bool)
  | 0, _, _, _ => none
  | k + 1, x0, x1, x14 => if x14 = true then (some (0, (⟨#[]⟩ : ByteArray), false)) else ((octets_Put.f ([] : List Int) x0 2).bind fun t184 => ((octets_Put.f t184 x1 2).bind fun t187 => ((octets_Put.f t187 0 4).bind fun t190 => (some (2, strOfNums t190, true)))))
def tlv_Fault.f (k : Nat) (a0 : Int) (a1 : Int) : Option (Int × ByteArray × Bool) := (tlv_in.f a0 0 65535).bind fun t182 => (if t182 = true then ((tlv_in.f a1 0 65535).bind fun t183 => (tlv_Fault.j0 k a0 a1 (!t183))) else (tlv_Fault.j0 k a0 a1 true))
set_option maxHeartbeats 8000000 in
set_option maxRecDepth 100000 in
theorem tlv_Fault.calls (k : Nat) (a0 : Int) (a1 : Int) (r1 : Int) (r2 : ByteArray) (r3 : Bool) (w : World) (h : tlv_Fault.f k a0 a1 = some (r1, r2, r3)) :
    Calls Try.prog 31 #[.int .i64 a0, .int .i64 a1] w fun e w' => e = .returned (.tuple #[.agg #[.int .i64 r1, .string r2], .bool r3]) ∧ Below w.heap.size w w' := by
  have hu26 := Try.underlying26
  have HB := Aside0.mk (Below.refl w.heap.size w)
  have H : ((tlv_in.f a0 0 65535).bind fun t182 => (if t182 = true then ((tlv_in.f a1 0 65535).bind fun t183 => (tlv_Fault.j0 k a0 a1 (!t183))) else (tlv_Fault.j0 k a0 a1 true))) = some (r1, r2, r3) := h
  clear h
  have HC3 := Aside0.mk H
  clear H
  go_enter Try.func31, Try.ntmps31
  go_upto_region 1 with (first | ((with_reducible refine gate_dst (N := 4) rfl ?_); refine box_event ?hg (N := 4) ?hd (cs := #[.int .i64 0, .string (⟨#[]⟩ : ByteArray)]) (t := 26) ?hr ?_; (case hd => rfl); (case hg => rfl); (case hr => first | (go_simp; done) | (go_simp; rfl)); intro gb181 hg w4 hbox hb; have n0_ := Aside0.mk (below_step (by repeat (first | (with_reducible first | exact HB.out | apply below_alloc | apply pw_below_drewN | apply below_drew1) | exact HB.out)) hb); have n1_ := Aside0.mk (hbox); have n2_ := Aside0.mk ((by rw [hg]; exact (below_size (by repeat (first | (with_reducible first | exact HB.out | apply below_alloc | apply pw_below_drewN | apply below_drew1) | exact HB.out))) : w.heap.size ≤ gb181)); have n3_ := Aside0.mk ((by rw [hg]; exact (below_size (by repeat (first | (with_reducible first | exact HB.out | apply below_alloc | apply pw_below_drewN | apply below_drew1) | exact HB.out))) : w.heap.size ≤ gb181)); clear HB; have HB := n0_; have BK181 := n1_; have GW181 := n2_; have GE181 := n3_; clear n0_ n1_ n2_ n3_; clear hb hbox hg))
  (try simp only [Act.put, List.setIfInBounds_toArray, List.set_cons_zero, List.set_cons_succ])
  go_cut [14] (fun v14 wc => ∃ (kq : Nat) (x14_2 : Bool), v14 = .bool x14_2 ∧ Aside0 (tlv_Fault.j0 kq a0 a1 x14_2 = some (r1, r2, r3)) ∧ Aside0 (kq ≤ k) ∧ Aside0 (wc.heap[gb181]? = some (.cells #[.int .i64 0, .string (⟨#[]⟩ : ByteArray)] 26 (0, 0))) ∧ Aside0 (Below w.heap.size w wc))
  case first =>
    have H := HC3.out
    clear HC3
    replace H := Option.bind_eq_some_iff.mp H
    obtain ⟨t182, A50, H⟩ := H
    replace H : (if t182 = true then ((tlv_in.f a1 0 65535).bind fun t183 => (tlv_Fault.j0 k a0 a1 (!t183))) else (tlv_Fault.j0 k a0 a1 true)) = some (r1, r2, r3) := H
    have A5 := Aside0.mk A50
    clear A50
    by_cases c6 : t182 = true
    · subst c6
      have H1 : ((tlv_in.f a1 0 65535).bind fun t183 => (tlv_Fault.j0 k a0 a1 (!t183))) = some (r1, r2, r3) := by rw [if_pos rfl] at H; exact H
      clear H
      have H := H1
      clear H1
      replace H := Option.bind_eq_some_iff.mp H
      obtain ⟨t183, A70, H⟩ := H
      replace H : (tlv_Fault.j0 k a0 a1 (!t183)) = some (r1, r2, r3) := H
      have A7 := Aside0.mk A70
      clear A70
      have H' := Aside0.mk H
      clear H
      go_wp2_with (first | ((with_reducible refine gate_callee (f := 42) rfl ?_); refine goesL_ (some 8) rfl rfl Try.func42 (by kernel_rfl) rfl #[.int .i64 a0, .int .i64 0, .int .i64 65535] rfl (by (try simp only [List.map_toArray, List.map_cons, List.map_nil]); first | done | rfl | (simp only [List.length_drop, List.length_take]; rfl)) ?_; (with_reducible refine (tlv_in.calls a0 0 65535 true _ A5.out).mono ?_); rintro e w' ⟨rfl, ⟨nd, rfl⟩⟩; refine ⟨_, rfl, ?_⟩) | (go_at_call 42; (with_reducible refine (tlv_in.calls a1 0 65535 t183 _ A7.out).mono ?_); rintro e w' ⟨rfl, ⟨nd, rfl⟩⟩))
      go_meet
      case rel => exact ⟨_, (!t183), (by first | rfl | (simp; done) | (simp [*]; done)), H', ⟨by first | omega | exact Nat.le_refl _⟩, ⟨by (with_reducible repeat (first | refine blk_drewN ?_ _ | refine blk_drew ?_ | refine blk_alloc ?_ _)); exact BK181.out⟩, ⟨by repeat (first | (with_reducible first | exact HB.out | apply below_alloc | apply pw_below_drewN | apply below_drew1 | refine below_set ?_ GE181.out) | exact HB.out)⟩⟩
    · replace c6 := Bool.eq_false_iff.mpr c6
      subst c6
      have H1 : (tlv_Fault.j0 k a0 a1 true) = some (r1, r2, r3) := by rw [if_neg (show ¬ (false = true) by decide)] at H; exact H
      clear H
      have H := H1
      clear H1
      have H' := Aside0.mk H
      clear H
      go_wp2_with (first | ((with_reducible refine gate_callee (f := 42) rfl ?_); refine goesL_ (some 8) rfl rfl Try.func42 (by kernel_rfl) rfl #[.int .i64 a0, .int .i64 0, .int .i64 65535] rfl (by (try simp only [List.map_toArray, List.map_cons, List.map_nil]); first | done | rfl | (simp only [List.length_drop, List.length_take]; rfl)) ?_; (with_reducible refine (tlv_in.calls a0 0 65535 false _ A5.out).mono ?_); rintro e w' ⟨rfl, ⟨nd, rfl⟩⟩; refine ⟨_, rfl, ?_⟩))
      go_meet
      case rel => exact ⟨_, (true), (by first | rfl | (simp; done) | (simp [*]; done)), H', ⟨by first | omega | exact Nat.le_refl _⟩, ⟨by (with_reducible repeat (first | refine blk_drewN ?_ _ | refine blk_drew ?_ | refine blk_alloc ?_ _)); exact BK181.out⟩, ⟨by repeat (first | (with_reducible first | exact HB.out | apply below_alloc | apply pw_below_drewN | apply below_drew1 | refine below_set ?_ GE181.out) | exact HB.out)⟩⟩
  case rest =>
    clear HC3
    try clear p2
    try clear c3
    try clear c4
    try clear c6
    obtain ⟨kq, x14_2, rfl, HA, HJ2, BK181, HB⟩ := hcut
    cases kq with
    | zero => exact absurd HA.out (by simp [tlv_Fault.j0])
    | succ kj2 =>
      have H := HA.out
      clear HA
      simp only [tlv_Fault.j0] at H
      by_cases c8 : x14_2 = true
      · subst c8
        have H1 : (some (0, (⟨#[]⟩ : ByteArray), false)) = some (r1, r2, r3) := by rw [if_pos rfl] at H; exact H
        clear H
        have H := H1
        clear H1
        simp only [Option.some.injEq, Prod.mk.injEq] at H
        obtain ⟨rfl, rfl, rfl⟩ := H
        have hcz9_0 : wc.cell? ⟨gb181, 0, none⟩ = some (.int .i64 0) := (blk_cell BK181.out 0).trans rfl
        have hcz9_1 : wc.cell? ⟨gb181, 1, none⟩ = some (.string (⟨#[]⟩ : ByteArray)) := (blk_cell BK181.out 1).trans rfl
        have hfz9_0 := blk_frozen BK181.out 0
        have hfz9_1 := blk_frozen BK181.out 1
        go_wp2
        refine bodyPost_ret (results_ct rfl _ _ gb181 26 #[.int .i64 0, .string (⟨#[]⟩ : ByteArray)] (0, 0) _ rfl (by (with_reducible repeat (first | refine blk_drewN ?_ _ | refine blk_drew ?_ | refine blk_alloc ?_ _)); refine blk_put (cs := #[.int .i64 0, .string (⟨#[]⟩ : ByteArray)]) ?_ 1 _ rfl; (with_reducible repeat (first | refine blk_drewN ?_ _ | refine blk_drew ?_ | refine blk_alloc ?_ _)); refine blk_put (cs := #[.int .i64 0, .string (⟨#[]⟩ : ByteArray)]) ?_ 0 _ rfl; (with_reducible repeat (first | refine blk_drewN ?_ _ | refine blk_drew ?_ | refine blk_alloc ?_ _)); exact BK181.out) Try.underlying26 rfl (by kernel_rfl)) rfl ?_
        exact ⟨by first | rfl | (simp [errW_none, errW_some] <;> rfl) | (simp [*, errW_none, errW_some] <;> rfl), by repeat (first | (with_reducible first | exact HB.out | apply below_alloc | apply pw_below_drewN | apply below_drew1 | refine below_set ?_ GE181.out) | exact HB.out)⟩
      · replace c8 := Bool.eq_false_iff.mpr c8
        subst c8
        have H1 : ((octets_Put.f ([] : List Int) a0 2).bind fun t184 => ((octets_Put.f t184 a1 2).bind fun t187 => ((octets_Put.f t187 0 4).bind fun t190 => (some (2, strOfNums t190, true))))) = some (r1, r2, r3) := by rw [if_neg (show ¬ (false = true) by decide)] at H; exact H
        clear H
        have H := H1
        clear H1
        replace H := Option.bind_eq_some_iff.mp H
        obtain ⟨t184, A100, H⟩ := H
        replace H : ((octets_Put.f t184 a1 2).bind fun t187 => ((octets_Put.f t187 0 4).bind fun t190 => (some (2, strOfNums t190, true)))) = some (r1, r2, r3) := H
        have A10 := Aside0.mk A100
        clear A100
        replace H := Option.bind_eq_some_iff.mp H
        obtain ⟨t187, A110, H⟩ := H
        replace H : ((octets_Put.f t187 0 4).bind fun t190 => (some (2, strOfNums t190, true))) = some (r1, r2, r3) := H
        have A11 := Aside0.mk A110
        clear A110
        replace H := Option.bind_eq_some_iff.mp H
        obtain ⟨t190, A120, H⟩ := H
        replace H : (some (2, strOfNums t190, true)) = some (r1, r2, r3) := H
        have A12 := Aside0.mk A120
        clear A120
        simp only [Option.some.injEq, Prod.mk.injEq] at H
        obtain ⟨rfl, rfl, rfl⟩ := H
        go_wp2_with (first | ((with_reducible refine gate_callee (f := 40) rfl ?_); refine goesL_ (some 17) rfl rfl Try.func40 (by kernel_rfl) rfl #[.slice none 0 0, .int .i64 a0, .int .i64 2] rfl (by (try simp only [List.map_toArray, List.map_cons, List.map_nil]); first | done | rfl | (simp only [List.length_drop, List.length_take]; rfl)) ?_; (refine (octets_Put.calls _ _ ([] : List Int) a0 2 t184 _ ?side1 ?side2 A10.out).mono ?_); (case side1 => exact Kd.C_nil _ _); (case side2 => exact Nat.le_refl _); rintro e w13 ⟨v185, rfl, ho0, hb⟩; refine ⟨_, rfl, ?_⟩; have n0_ := Aside0.mk (Kd.R_lower ho0 (below_size (by repeat (first | (with_reducible first | exact HB.out | apply below_alloc | apply pw_below_drewN | apply below_drew1 | refine below_set ?_ GE181.out) | exact HB.out)))); have n1_ := Aside0.mk (blk_below (g := gb181) (o := .cells #[.int .i64 0, .string (⟨#[]⟩ : ByteArray)] 26 (0, 0)) (by (with_reducible repeat (first | refine blk_drewN ?_ _ | refine blk_drew ?_ | refine blk_alloc ?_ _)); exact BK181.out) hb); have n2_ := Aside0.mk (below_step (by repeat (first | (with_reducible first | exact HB.out | apply below_alloc | apply pw_below_drewN | apply below_drew1 | refine below_set ?_ GE181.out) | exact HB.out)) hb); clear BK181; clear HB; have HO186 := n0_; have BK181 := n1_; have HB := n2_; clear n0_ n1_ n2_; (try clear hb); (try clear hb2); (try clear hk); (try clear hi); (try clear ho0); obtain ⟨Ao14, co14, eo14⟩ := Kd.R_slice HO186.out; subst eo14) | ((with_reducible refine gate_callee (f := 40) rfl ?_); refine goesL_ (some 19) rfl rfl Try.func40 (by kernel_rfl) rfl #[.slice Ao14 t184.length co14, .int .i64 a1, .int .i64 2] rfl (by (try simp only [List.map_toArray, List.map_cons, List.map_nil]); first | done | rfl | (simp only [List.length_drop, List.length_take]; rfl)) ?_; (with_reducible refine (octets_Put.calls _ _ t184 a1 2 t187 _ ?side1 ?side2 A11.out).mono ?_); (case side1 => repeat (first | exact (Kd.R_reads' HO186.out).2.2 | (with_reducible refine Kd.C_alloc ?_ _) | (with_reducible refine Kd.C_drewN ?_ _) | (with_reducible refine Kd.C_drew ?_))); (case side2 => exact (Kd.R_reads' HO186.out).2.1); rintro e w15 ⟨v188, rfl, ho0, hb⟩; refine ⟨_, rfl, ?_⟩; have n0_ := Aside0.mk (Kd.R_elder' (by (with_reducible repeat (first | apply Kd.R_alloc | apply Kd.R_drewN | apply Kd.R_drew)); exact HO186.out) (Kd.R_base ho0) hb); have n1_ := Aside0.mk (Kd.R_lower (Kd.R_new' ho0 (Kd.R_lt (by (with_reducible repeat (first | apply Kd.R_alloc | apply Kd.R_drewN | apply Kd.R_drew)); exact HO186.out))) (below_size (by repeat (first | (with_reducible first | exact HB.out | apply below_alloc | apply pw_below_drewN | apply below_drew1 | refine below_set ?_ GE181.out) | exact HB.out)))); have n2_ := Aside0.mk (blk_below (g := gb181) (o := .cells #[.int .i64 0, .string (⟨#[]⟩ : ByteArray)] 26 (0, 0)) (by (with_reducible repeat (first | refine blk_drewN ?_ _ | refine blk_drew ?_ | refine blk_alloc ?_ _)); exact BK181.out) hb); have n3_ := Aside0.mk (below_step (by repeat (first | (with_reducible first | exact HB.out | apply below_alloc | apply pw_below_drewN | apply below_drew1 | refine below_set ?_ GE181.out) | exact HB.out)) hb); clear HO186; clear BK181; clear HB; have HO186 := n0_; have HO189 := n1_; have BK181 := n2_; have HB := n3_; clear n0_ n1_ n2_ n3_; (try clear hb); (try clear hb2); (try clear hk); (try clear hi); (try clear ho0); obtain ⟨Ao16, co16, eo16⟩ := Kd.R_slice HO189.out; subst eo16) | ((with_reducible refine gate_callee (f := 40) rfl ?_); refine goesL_ (some 20) rfl rfl Try.func40 (by kernel_rfl) rfl #[.slice Ao16 t187.length co16, .int .i64 0, .int .i64 4] rfl (by (try simp only [List.map_toArray, List.map_cons, List.map_nil]); first | done | rfl | (simp only [List.length_drop, List.length_take]; rfl)) ?_; (with_reducible refine (octets_Put.calls _ _ t187 0 4 t190 _ ?side1 ?side2 A12.out).mono ?_); (case side1 => repeat (first | exact (Kd.R_reads' HO189.out).2.2 | (with_reducible refine Kd.C_alloc ?_ _) | (with_reducible refine Kd.C_drewN ?_ _) | (with_reducible refine Kd.C_drew ?_))); (case side2 => exact (Kd.R_reads' HO189.out).2.1); rintro e w17 ⟨v191, rfl, ho0, hb⟩; refine ⟨_, rfl, ?_⟩; have n0_ := Aside0.mk (Kd.R_elder' (by (with_reducible repeat (first | apply Kd.R_alloc | apply Kd.R_drewN | apply Kd.R_drew)); exact HO186.out) (Kd.R_base ho0) hb); have n1_ := Aside0.mk (Kd.R_elder' (by (with_reducible repeat (first | apply Kd.R_alloc | apply Kd.R_drewN | apply Kd.R_drew)); exact HO189.out) (Kd.R_base ho0) hb); have n2_ := Aside0.mk (Kd.R_lower (Kd.R_new' (Kd.R_new' ho0 (Kd.R_lt (by (with_reducible repeat (first | apply Kd.R_alloc | apply Kd.R_drewN | apply Kd.R_drew)); exact HO186.out))) (Kd.R_lt (by (with_reducible repeat (first | apply Kd.R_alloc | apply Kd.R_drewN | apply Kd.R_drew)); exact HO189.out))) (below_size (by repeat (first | (with_reducible first | exact HB.out | apply below_alloc | apply pw_below_drewN | apply below_drew1 | refine below_set ?_ GE181.out) | exact HB.out)))); have n3_ := Aside0.mk (blk_below (g := gb181) (o := .cells #[.int .i64 0, .string (⟨#[]⟩ : ByteArray)] 26 (0, 0)) (by (with_reducible repeat (first | refine blk_drewN ?_ _ | refine blk_drew ?_ | refine blk_alloc ?_ _)); exact BK181.out) hb); have n4_ := Aside0.mk (below_step (by repeat (first | (with_reducible first | exact HB.out | apply below_alloc | apply pw_below_drewN | apply below_drew1 | refine below_set ?_ GE181.out) | exact HB.out)) hb); clear HO186; clear HO189; clear BK181; clear HB; have HO186 := n0_; have HO189 := n1_; have HO192 := n2_; have BK181 := n3_; have HB := n4_; clear n0_ n1_ n2_ n3_ n4_; (try clear hb); (try clear hb2); (try clear hk); (try clear hi); (try clear ho0); have hcv18 := own_string (P := Try.prog) Try.underlying31 Try.underlying5 Try.underlying9 (Kd.own_of_R HO192.out); have hcz19_0 : w17.cell? ⟨gb181, 0, none⟩ = some (.int .i64 0) := (blk_cell BK181.out 0).trans rfl; have hcz19_1 : w17.cell? ⟨gb181, 1, none⟩ = some (.string (⟨#[]⟩ : ByteArray)) := (blk_cell BK181.out 1).trans rfl; have hfz19_0 := blk_frozen BK181.out 0; have hfz19_1 := blk_frozen BK181.out 1))
        refine bodyPost_ret (results_ct rfl _ _ gb181 26 #[.int .i64 2, .string (strOfNums t190)] (0, 0) _ rfl (by (with_reducible repeat (first | refine blk_drewN ?_ _ | refine blk_drew ?_ | refine blk_alloc ?_ _)); refine blk_put (cs := #[.int .i64 2, .string (⟨#[]⟩ : ByteArray)]) ?_ 1 _ rfl; (with_reducible repeat (first | refine blk_drewN ?_ _ | refine blk_drew ?_ | refine blk_alloc ?_ _)); refine blk_put (cs := #[.int .i64 0, .string (⟨#[]⟩ : ByteArray)]) ?_ 0 _ rfl; (with_reducible repeat (first | refine blk_drewN ?_ _ | refine blk_drew ?_ | refine blk_alloc ?_ _)); exact BK181.out) Try.underlying26 rfl (by kernel_rfl)) rfl ?_
        exact ⟨by first | rfl | (simp [errW_none, errW_some] <;> rfl) | (simp [*, errW_none, errW_some] <;> rfl), by repeat (first | (with_reducible first | exact HB.out | apply below_alloc | apply pw_below_drewN | apply below_drew1 | refine below_set ?_ GE181.out) | exact HB.out)⟩
/-! ### carillonref08_Fault: function 32 -/
def carillonref08_Fault.j0 : Nat → Int → Int → Bool → Option (Int × ByteArray × Bool)
  | 0, _, _, _ => none
  | k + 1, x0, x1, x20 => if x20 = true then (some (0, (⟨#[]⟩ : ByteArray), false)) else ((carillonref01_Put.f k x0 2).bind fun t194 => ((carillonref01_Put.f k x1 2).bind fun t197 => (if t194.length + t197.length < 140737488355328 then ((some (t194 ++ t197 : List Int)).bind fun y200 => ((some (([0, 0, 0, 0] : List Int) : List Int)).bind fun y203 => (if y200.length + y203.length < 140737488355328 then (some (2, strOfNums (y200 ++ y203), true)) else (none)))) else (none))))
def carillonref08_Fault.f (k : Nat) (a0 : Int) (a1 : Int) : Option (Int × ByteArray × Bool) := if a0 < 0 then (carillonref08_Fault.j0 k a0 a1 true) else (if a0 > 65535 then (carillonref08_Fault.j0 k a0 a1 true) else (if a1 < 0 then (carillonref08_Fault.j0 k a0 a1 true) else (carillonref08_Fault.j0 k a0 a1 (decide (a1 > 65535)))))
set_option maxHeartbeats 8000000 in
set_option maxRecDepth 100000 in
theorem carillonref08_Fault.calls (k : Nat) (a0 : Int) (a1 : Int) (r1 : Int) (r2 : ByteArray) (r3 : Bool) (w : World) (h : carillonref08_Fault.f k a0 a1 = some (r1, r2, r3)) :
    Calls Try.prog 32 #[.int .i64 a0, .int .i64 a1] w fun e w' => e = .returned (.tuple #[.agg #[.int .i64 r1, .string r2], .bool r3]) ∧ Below w.heap.size w w' := by
  have hu26 := Try.underlying26
  have HB := Aside0.mk (Below.refl w.heap.size w)
  have H : (if a0 < 0 then (carillonref08_Fault.j0 k a0 a1 true) else (if a0 > 65535 then (carillonref08_Fault.j0 k a0 a1 true) else (if a1 < 0 then (carillonref08_Fault.j0 k a0 a1 true) else (carillonref08_Fault.j0 k a0 a1 (decide (a1 > 65535)))))) = some (r1, r2, r3) := h
  clear h
  have HC3 := Aside0.mk H
  clear H
  go_enter Try.func32, Try.ntmps32
  go_upto_region 1 with (first | ((with_reducible refine gate_dst (N := 4) rfl ?_); refine box_event ?hg (N := 4) ?hd (cs := #[.int .i64 0, .string (⟨#[]⟩ : ByteArray)]) (t := 26) ?hr ?_; (case hd => rfl); (case hg => rfl); (case hr => first | (go_simp; done) | (go_simp; rfl)); intro gb193 hg w4 hbox hb; have n0_ := Aside0.mk (below_step (by repeat (first | (with_reducible first | exact HB.out | apply below_alloc | apply pw_below_drewN | apply below_drew1) | exact HB.out)) hb); have n1_ := Aside0.mk (hbox); have n2_ := Aside0.mk ((by rw [hg]; exact (below_size (by repeat (first | (with_reducible first | exact HB.out | apply below_alloc | apply pw_below_drewN | apply below_drew1) | exact HB.out))) : w.heap.size ≤ gb193)); have n3_ := Aside0.mk ((by rw [hg]; exact (below_size (by repeat (first | (with_reducible first | exact HB.out | apply below_alloc | apply pw_below_drewN | apply below_drew1) | exact HB.out))) : w.heap.size ≤ gb193)); clear HB; have HB := n0_; have BK193 := n1_; have GW193 := n2_; have GE193 := n3_; clear n0_ n1_ n2_ n3_; clear hb hbox hg))
  (try simp only [Act.put, List.setIfInBounds_toArray, List.set_cons_zero, List.set_cons_succ])
  go_cut [20] (fun v20 wc => ∃ (kq : Nat) (x20_2 : Bool), v20 = .bool x20_2 ∧ Aside0 (carillonref08_Fault.j0 kq a0 a1 x20_2 = some (r1, r2, r3)) ∧ Aside0 (kq ≤ k) ∧ Aside0 (wc.heap[gb193]? = some (.cells #[.int .i64 0, .string (⟨#[]⟩ : ByteArray)] 26 (0, 0))) ∧ Aside0 (Below w.heap.size w wc))
  case first =>
    have H := HC3.out
    clear HC3
    by_cases c5 : a0 < 0
    · rw [if_pos c5] at H
      have c5b0 : decide (a0 < 0) = true := decide_eq_true c5
      clear c5
      (first | rw [c5b0] | (simp only [i64_w, i32_w]; rw [c5b0]) | skip)
      have H' := Aside0.mk H
      clear H
      go_wp2
      go_meet
      case rel => exact ⟨_, (true), (by first | rfl | (simp; done) | (simp [*]; done)), H', ⟨by first | omega | exact Nat.le_refl _⟩, ⟨by (with_reducible repeat (first | refine blk_drewN ?_ _ | refine blk_drew ?_ | refine blk_alloc ?_ _)); exact BK193.out⟩, ⟨by repeat (first | (with_reducible first | exact HB.out | apply below_alloc | apply pw_below_drewN | apply below_drew1 | refine below_set ?_ GE193.out) | exact HB.out)⟩⟩
    · rw [if_neg c5] at H
      have c5b0 : decide (a0 < 0) = false := decide_eq_false c5
      clear c5
      (first | rw [c5b0] | (simp only [i64_w, i32_w]; rw [c5b0]) | skip)
      by_cases c6 : a0 > 65535
      · rw [if_pos c6] at H
        have c6b0 : decide (65535 < a0) = true := decide_eq_true c6
        clear c6
        have H' := Aside0.mk H
        clear H
        go_wp2
        go_meet
        case rel => exact ⟨_, (true), (by first | rfl | (simp; done) | (simp [*]; done)), H', ⟨by first | omega | exact Nat.le_refl _⟩, ⟨by (with_reducible repeat (first | refine blk_drewN ?_ _ | refine blk_drew ?_ | refine blk_alloc ?_ _)); exact BK193.out⟩, ⟨by repeat (first | (with_reducible first | exact HB.out | apply below_alloc | apply pw_below_drewN | apply below_drew1 | refine below_set ?_ GE193.out) | exact HB.out)⟩⟩
      · rw [if_neg c6] at H
        have c6b0 : decide (65535 < a0) = false := decide_eq_false c6
        clear c6
        by_cases c7 : a1 < 0
        · rw [if_pos c7] at H
          have c7b0 : decide (a1 < 0) = true := decide_eq_true c7
          clear c7
          have H' := Aside0.mk H
          clear H
          go_wp2
          go_meet
          case rel => exact ⟨_, (true), (by first | rfl | (simp; done) | (simp [*]; done)), H', ⟨by first | omega | exact Nat.le_refl _⟩, ⟨by (with_reducible repeat (first | refine blk_drewN ?_ _ | refine blk_drew ?_ | refine blk_alloc ?_ _)); exact BK193.out⟩, ⟨by repeat (first | (with_reducible first | exact HB.out | apply below_alloc | apply pw_below_drewN | apply below_drew1 | refine below_set ?_ GE193.out) | exact HB.out)⟩⟩
        · rw [if_neg c7] at H
          have c7b0 : decide (a1 < 0) = false := decide_eq_false c7
          clear c7
          have H' := Aside0.mk H
          clear H
          go_wp2
          go_meet
          case rel => exact ⟨_, (decide (a1 > 65535)), (by first | rfl | (simp; done) | (simp [*]; done)), H', ⟨by first | omega | exact Nat.le_refl _⟩, ⟨by (with_reducible repeat (first | refine blk_drewN ?_ _ | refine blk_drew ?_ | refine blk_alloc ?_ _)); exact BK193.out⟩, ⟨by repeat (first | (with_reducible first | exact HB.out | apply below_alloc | apply pw_below_drewN | apply below_drew1 | refine below_set ?_ GE193.out) | exact HB.out)⟩⟩
  case rest =>
    clear HC3
    try clear p2
    try clear c3
    try clear c5
    try clear c5b0
    try clear c6
    try clear c6b0
    try clear c7
    try clear c7b0
    obtain ⟨kq, x20_2, rfl, HA, HJ2, BK193, HB⟩ := hcut
    cases kq with
    | zero => exact absurd HA.out (by simp [carillonref08_Fault.j0])
    | succ kj2 =>
      have H := HA.out
      clear HA
      simp only [carillonref08_Fault.j0] at H
      by_cases c8 : x20_2 = true
      · subst c8
        have H1 : (some (0, (⟨#[]⟩ : ByteArray), false)) = some (r1, r2, r3) := by rw [if_pos rfl] at H; exact H
        clear H
        have H := H1
        clear H1
        simp only [Option.some.injEq, Prod.mk.injEq] at H
        obtain ⟨rfl, rfl, rfl⟩ := H
        have hcz9_0 : wc.cell? ⟨gb193, 0, none⟩ = some (.int .i64 0) := (blk_cell BK193.out 0).trans rfl
        have hcz9_1 : wc.cell? ⟨gb193, 1, none⟩ = some (.string (⟨#[]⟩ : ByteArray)) := (blk_cell BK193.out 1).trans rfl
        have hfz9_0 := blk_frozen BK193.out 0
        have hfz9_1 := blk_frozen BK193.out 1
        go_wp2
        refine bodyPost_ret (results_ct rfl _ _ gb193 26 #[.int .i64 0, .string (⟨#[]⟩ : ByteArray)] (0, 0) _ rfl (by (with_reducible repeat (first | refine blk_drewN ?_ _ | refine blk_drew ?_ | refine blk_alloc ?_ _)); refine blk_put (cs := #[.int .i64 0, .string (⟨#[]⟩ : ByteArray)]) ?_ 1 _ rfl; (with_reducible repeat (first | refine blk_drewN ?_ _ | refine blk_drew ?_ | refine blk_alloc ?_ _)); refine blk_put (cs := #[.int .i64 0, .string (⟨#[]⟩ : ByteArray)]) ?_ 0 _ rfl; (with_reducible repeat (first | refine blk_drewN ?_ _ | refine blk_drew ?_ | refine blk_alloc ?_ _)); exact BK193.out) Try.underlying26 rfl (by kernel_rfl)) rfl ?_
        exact ⟨by first | rfl | (simp [errW_none, errW_some] <;> rfl) | (simp [*, errW_none, errW_some] <;> rfl), by repeat (first | (with_reducible first | exact HB.out | apply below_alloc | apply pw_below_drewN | apply below_drew1 | refine below_set ?_ GE193.out) | exact HB.out)⟩
      · replace c8 := Bool.eq_false_iff.mpr c8
        subst c8
        have H1 : ((carillonref01_Put.f kj2 a0 2).bind fun t194 => ((carillonref01_Put.f kj2 a1 2).bind fun t197 => (if t194.length + t197.length < 140737488355328 then ((some (t194 ++ t197 : List Int)).bind fun y200 => ((some (([0, 0, 0, 0] : List Int) : List Int)).bind fun y203 => (if y200.length + y203.length < 140737488355328 then (some (2, strOfNums (y200 ++ y203), true)) else (none)))) else (none)))) = some (r1, r2, r3) := by rw [if_neg (show ¬ (false = true) by decide)] at H; exact H
        clear H
        have H := H1
        clear H1
        replace H := Option.bind_eq_some_iff.mp H
        obtain ⟨t194, A100, H⟩ := H
        replace H : ((carillonref01_Put.f kj2 a1 2).bind fun t197 => (if t194.length + t197.length < 140737488355328 then ((some (t194 ++ t197 : List Int)).bind fun y200 => ((some (([0, 0, 0, 0] : List Int) : List Int)).bind fun y203 => (if y200.length + y203.length < 140737488355328 then (some (2, strOfNums (y200 ++ y203), true)) else (none)))) else (none))) = some (r1, r2, r3) := H
        have A10 := Aside0.mk A100
        clear A100
        replace H := Option.bind_eq_some_iff.mp H
        obtain ⟨t197, A110, H⟩ := H
        replace H : (if t194.length + t197.length < 140737488355328 then ((some (t194 ++ t197 : List Int)).bind fun y200 => ((some (([0, 0, 0, 0] : List Int) : List Int)).bind fun y203 => (if y200.length + y203.length < 140737488355328 then (some (2, strOfNums (y200 ++ y203), true)) else (none)))) else (none)) = some (r1, r2, r3) := H
        have A11 := Aside0.mk A110
        clear A110
        by_cases c12 : t194.length + t197.length < 140737488355328
        · rw [if_pos c12] at H
          have LMc12 := Aside0.mk c12
          clear c12
          obtain ⟨y200, hy200⟩ : ∃ y_ : List Int, y_ = (t194 ++ t197) := ⟨_, rfl⟩
          replace H : ((some (([0, 0, 0, 0] : List Int) : List Int)).bind fun y203 => (if y200.length + y203.length < 140737488355328 then (some (2, strOfNums (y200 ++ y203), true)) else (none))) = some (r1, r2, r3) := by first | (rw [hy200]; with_reducible exact H) | (have H2_ := (Option.bind_some _ _).symm.trans H; rw [hy200]; with_reducible exact H2_) | (have H2_ := (Option.bind_some _ _).symm.trans H; with_reducible exact H2_) | with_reducible exact H | (rw [hy200]; exact H) | exact H
          have Ny200 := Aside0.mk hy200
          clear hy200
          obtain ⟨y203, hy203⟩ : ∃ y_ : List Int, y_ = (([0, 0, 0, 0] : List Int)) := ⟨_, rfl⟩
          replace H : (if y200.length + y203.length < 140737488355328 then (some (2, strOfNums (y200 ++ y203), true)) else (none)) = some (r1, r2, r3) := by first | (rw [hy203]; with_reducible exact H) | (have H2_ := (Option.bind_some _ _).symm.trans H; rw [hy203]; with_reducible exact H2_) | (have H2_ := (Option.bind_some _ _).symm.trans H; with_reducible exact H2_) | with_reducible exact H | (rw [hy203]; exact H) | exact H
          have Ny203 := Aside0.mk hy203
          clear hy203
          by_cases c13 : y200.length + y203.length < 140737488355328
          · rw [if_pos c13] at H
            have LMc13 := Aside0.mk c13
            clear c13
            obtain ⟨y206, hy206⟩ : ∃ y_ : List Int, y_ = (y200 ++ y203) := ⟨_, rfl⟩
            replace H : (some (2, strOfNums y206, true)) = some (r1, r2, r3) := by first | (rw [hy206]; with_reducible exact H) | (have H2_ := (Option.bind_some _ _).symm.trans H; rw [hy206]; with_reducible exact H2_) | (have H2_ := (Option.bind_some _ _).symm.trans H; with_reducible exact H2_) | with_reducible exact H | (rw [hy206]; exact H) | exact H
            have Ny206 := Aside0.mk hy206
            clear hy206
            simp only [Option.some.injEq, Prod.mk.injEq] at H
            obtain ⟨rfl, rfl, rfl⟩ := H
            go_wp2_with (first | ((with_reducible refine gate_callee (f := 41) rfl ?_); refine goesL_ (some 23) rfl rfl Try.func41 (by kernel_rfl) rfl #[.int .i64 a0, .int .i64 2] rfl (by (try simp only [List.map_toArray, List.map_cons, List.map_nil]); first | done | rfl | (simp only [List.length_drop, List.length_take]; rfl)) ?_; (with_reducible refine (carillonref01_Put.calls kj2 a0 2 t194 _ A10.out).mono ?_); rintro e w14 ⟨v195, rfl, ho0, hb⟩; refine ⟨_, rfl, ?_⟩; have n0_ := Aside0.mk (Kd.R_lower ho0 (below_size (by repeat (first | (with_reducible first | exact HB.out | apply below_alloc | apply pw_below_drewN | apply below_drew1 | refine below_set ?_ GE193.out) | exact HB.out)))); have n1_ := Aside0.mk (blk_below (g := gb193) (o := .cells #[.int .i64 0, .string (⟨#[]⟩ : ByteArray)] 26 (0, 0)) (by (with_reducible repeat (first | refine blk_drewN ?_ _ | refine blk_drew ?_ | refine blk_alloc ?_ _)); exact BK193.out) hb); have n2_ := Aside0.mk (below_step (by repeat (first | (with_reducible first | exact HB.out | apply below_alloc | apply pw_below_drewN | apply below_drew1 | refine below_set ?_ GE193.out) | exact HB.out)) hb); clear BK193; clear HB; have HO196 := n0_; have BK193 := n1_; have HB := n2_; clear n0_ n1_ n2_; (try clear hb); (try clear hb2); (try clear hk); (try clear hi); (try clear ho0)) | ((with_reducible refine gate_callee (f := 41) rfl ?_); refine goesL_ (some 25) rfl rfl Try.func41 (by kernel_rfl) rfl #[.int .i64 a1, .int .i64 2] rfl (by (try simp only [List.map_toArray, List.map_cons, List.map_nil]); first | done | rfl | (simp only [List.length_drop, List.length_take]; rfl)) ?_; (with_reducible refine (carillonref01_Put.calls kj2 a1 2 t197 _ A11.out).mono ?_); rintro e w15 ⟨v198, rfl, ho0, hb⟩; refine ⟨_, rfl, ?_⟩; have n0_ := Aside0.mk (Kd.R_elder' (by (with_reducible repeat (first | apply Kd.R_alloc | apply Kd.R_drewN | apply Kd.R_drew)); exact HO196.out) (Kd.R_base ho0) hb); have n1_ := Aside0.mk (Kd.R_lower (Kd.R_new' ho0 (Kd.R_lt (by (with_reducible repeat (first | apply Kd.R_alloc | apply Kd.R_drewN | apply Kd.R_drew)); exact HO196.out))) (below_size (by repeat (first | (with_reducible first | exact HB.out | apply below_alloc | apply pw_below_drewN | apply below_drew1 | refine below_set ?_ GE193.out) | exact HB.out)))); have n2_ := Aside0.mk (blk_below (g := gb193) (o := .cells #[.int .i64 0, .string (⟨#[]⟩ : ByteArray)] 26 (0, 0)) (by (with_reducible repeat (first | refine blk_drewN ?_ _ | refine blk_drew ?_ | refine blk_alloc ?_ _)); exact BK193.out) hb); have n3_ := Aside0.mk (below_step (by repeat (first | (with_reducible first | exact HB.out | apply below_alloc | apply pw_below_drewN | apply below_drew1 | refine below_set ?_ GE193.out) | exact HB.out)) hb); clear HO196; clear BK193; clear HB; have HO196 := n0_; have HO199 := n1_; have BK193 := n2_; have HB := n3_; clear n0_ n1_ n2_ n3_; (try clear hb); (try clear hb2); (try clear hk); (try clear hi); (try clear ho0); obtain ⟨Ao17, co17, eo17⟩ := Kd.R_slice HO199.out; subst eo17) | ((with_reducible refine gate_builtin (b := .append) (xs := #[.tmp 23, .tmp 25]) rfl ?_); at_builtin; refine Kd.R_append_rows (Kd.int .u8) (w0 := w) w.heap.size rfl (.tmp 23) (.tmp 25) 31 5 (.int .u8 0) 1 rfl Try.underlying31 info5 rfl (by decide) (by omega) v195 t194 t197 _ _ _ (fun k_ => some k_ ≠ (.slice Ao17 t197.length co17 : Value).ownBlock) (fun _ => False) rfl rfl ?aO ?aR (fun _ _ h => h) (fun _ h => h.elim) ?aF ?aB ?aS ?aL ?_; (case aR => repeat (first | exact (Kd.R_reads' HO199.out).2.2 | (with_reducible refine Kd.C_alloc ?_ _) | (with_reducible refine Kd.C_drewN ?_ _) | (with_reducible refine Kd.C_drew ?_))); (case aB => exact (by repeat (first | (with_reducible first | exact HB.out | apply below_alloc | apply pw_below_drewN | apply below_drew1 | refine below_set ?_ GE193.out) | exact HB.out))); (case aF => exact (fun k_ hk => Kd.fresh' (Kd.R_lt (by (with_reducible repeat (first | apply Kd.R_alloc | apply Kd.R_drewN | apply Kd.R_drew)); exact HO199.out)) k_ hk)); (case aO => exact (by (with_reducible repeat (first | apply Kd.R_alloc | apply Kd.R_drewN | apply Kd.R_drew)); exact Kd.R_mono HO196.out (fun _ hk => hk.2))); (case aS => exact (below_size (by repeat (first | (with_reducible first | exact HB.out | apply below_alloc | apply pw_below_drewN | apply below_drew1 | refine below_set ?_ GE193.out) | exact HB.out)))); (case aL => have := LMc12.out; omega); intro v201 w16 ho hb hg hat; rw [← Ny200.out] at ho; have n0_ := Aside0.mk (blk_grown (g := gb193) (o := .cells #[.int .i64 0, .string (⟨#[]⟩ : ByteArray)] 26 (0, 0)) (by (with_reducible repeat (first | refine blk_drewN ?_ _ | refine blk_drew ?_ | refine blk_alloc ?_ _)); exact BK193.out) hg (Kd.R_ne HO196.out BK193.out (by decide))); have n1_ := Aside0.mk (Kd.R_after (ok := (fun _ => True)) (by (with_reducible repeat (first | apply Kd.R_alloc | apply Kd.R_drewN | apply Kd.R_drew)); exact HO199.out) hg hat); have n2_ := Aside0.mk (hb); have n3_ := Aside0.mk (ho); clear BK193; clear HO199; clear HB; clear HO196; have BK193 := n0_; have HO199 := n1_; have HB := n2_; have HO202 := n3_; clear n0_ n1_ n2_ n3_; clear ho hb hg hat) | ((with_reducible refine gate_dst (N := 27) rfl ?_); refine Kd.R_lit (Kd.int .u8) _ 5 ?hg (N := 27) ?hd (xs := ([0, 0, 0, 0] : List Int)) (inner := [.int .u8 0, .int .u8 0, .int .u8 0, .int .u8 0]) (ok := fun _ => True) (okp := fun _ => True) ?hr ?hp (fun _ hk => hk) trivial (Below.refl _ _) (Nat.le_refl _) (by simp) ?_; (case hd => rfl); (case hg => rfl); (case hr => first | (go_simp; done) | (go_simp; rfl)); (case hp => exact (Reps.one (show Kd.M (Kd.int .u8) _ _ _ 0 [.int .u8 0] from rfl) (Reps.one (show Kd.M (Kd.int .u8) _ _ _ 0 [.int .u8 0] from rfl) (Reps.one (show Kd.M (Kd.int .u8) _ _ _ 0 [.int .u8 0] from rfl) (Reps.one (show Kd.M (Kd.int .u8) _ _ _ 0 [.int .u8 0] from rfl) (Reps.none _ _)))))); intro v204 w18 ho19 hb hg_ hnew_; clear hg_ hnew_; (first | rw [← Ny203.out] at ho19 | (simp only [Int.reduceToNat] at ho19; rw [← Ny203.out] at ho19)); have n0_ := Aside0.mk (Kd.R_elder' (by (with_reducible repeat (first | apply Kd.R_alloc | apply Kd.R_drewN | apply Kd.R_drew)); exact HO199.out) (Kd.R_base ho19) hb); have n1_ := Aside0.mk (Kd.R_elder' (by (with_reducible repeat (first | apply Kd.R_alloc | apply Kd.R_drewN | apply Kd.R_drew)); exact HO202.out) (Kd.R_base ho19) hb); have n2_ := Aside0.mk (Kd.R_lower (Kd.R_new' (Kd.R_new' ho19 (Kd.R_lt (by (with_reducible repeat (first | apply Kd.R_alloc | apply Kd.R_drewN | apply Kd.R_drew)); exact HO199.out))) (Kd.R_lt (by (with_reducible repeat (first | apply Kd.R_alloc | apply Kd.R_drewN | apply Kd.R_drew)); exact HO202.out))) (below_size (by repeat (first | (with_reducible first | exact HB.out | apply below_alloc | apply pw_below_drewN | apply below_drew1 | refine below_set ?_ GE193.out) | exact HB.out)))); have n3_ := Aside0.mk (blk_below (g := gb193) (o := .cells #[.int .i64 0, .string (⟨#[]⟩ : ByteArray)] 26 (0, 0)) (by (with_reducible repeat (first | refine blk_drewN ?_ _ | refine blk_drew ?_ | refine blk_alloc ?_ _)); exact BK193.out) hb); have n4_ := Aside0.mk (below_step (by repeat (first | (with_reducible first | exact HB.out | apply below_alloc | apply pw_below_drewN | apply below_drew1 | refine below_set ?_ GE193.out) | exact HB.out)) hb); clear HO199; clear HO202; clear BK193; clear HB; have HO199 := n0_; have HO202 := n1_; have HO205 := n2_; have BK193 := n3_; have HB := n4_; clear n0_ n1_ n2_ n3_ n4_; clear hb ho19; obtain ⟨Ao21, co21, eo21⟩ := Kd.R_slice HO205.out; subst eo21) | ((with_reducible refine gate_builtin (b := .append) (xs := #[.tmp 26, .tmp 27]) rfl ?_); at_builtin; refine Kd.R_append_rows (Kd.int .u8) (w0 := w) w.heap.size rfl (.tmp 26) (.tmp 27) 31 5 (.int .u8 0) 1 rfl Try.underlying31 info5 rfl (by decide) (by omega) v201 y200 y203 _ _ _ (fun k_ => some k_ ≠ (.slice Ao17 t197.length co17 : Value).ownBlock ∧ some k_ ≠ (.slice Ao21 y203.length co21 : Value).ownBlock) (fun _ => False) rfl rfl ?aO ?aR (fun _ _ h => h) (fun _ h => h.elim) ?aF ?aB ?aS ?aL ?_; (case aR => repeat (first | exact (Kd.R_reads' HO205.out).2.2 | (with_reducible refine Kd.C_alloc ?_ _) | (with_reducible refine Kd.C_drewN ?_ _) | (with_reducible refine Kd.C_drew ?_))); (case aB => exact (by repeat (first | (with_reducible first | exact HB.out | apply below_alloc | apply pw_below_drewN | apply below_drew1 | refine below_set ?_ GE193.out) | exact HB.out))); (case aF => exact (fun k_ hk => ⟨Kd.fresh' (Kd.R_lt (by (with_reducible repeat (first | apply Kd.R_alloc | apply Kd.R_drewN | apply Kd.R_drew)); exact HO199.out)) k_ hk, Kd.fresh' (Kd.R_lt (by (with_reducible repeat (first | apply Kd.R_alloc | apply Kd.R_drewN | apply Kd.R_drew)); exact HO205.out)) k_ hk⟩)); (case aO => exact (by (with_reducible repeat (first | apply Kd.R_alloc | apply Kd.R_drewN | apply Kd.R_drew)); exact HO202.out)); (case aS => exact (below_size (by repeat (first | (with_reducible first | exact HB.out | apply below_alloc | apply pw_below_drewN | apply below_drew1 | refine below_set ?_ GE193.out) | exact HB.out)))); (case aL => have := LMc13.out; omega); intro v207 w20 ho hb hg hat; rw [← Ny206.out] at ho; have n0_ := Aside0.mk (blk_grown (g := gb193) (o := .cells #[.int .i64 0, .string (⟨#[]⟩ : ByteArray)] 26 (0, 0)) (by (with_reducible repeat (first | refine blk_drewN ?_ _ | refine blk_drew ?_ | refine blk_alloc ?_ _)); exact BK193.out) hg (Kd.R_ne HO202.out BK193.out (by decide))); have n1_ := Aside0.mk (Kd.R_after (ok := (fun k_ => some k_ ≠ (.slice Ao21 y203.length co21 : Value).ownBlock)) (by (with_reducible repeat (first | apply Kd.R_alloc | apply Kd.R_drewN | apply Kd.R_drew)); exact Kd.R_mono HO199.out (fun _ hk => ⟨hk.2, hk.1.2⟩)) hg hat); have n2_ := Aside0.mk (Kd.R_after (ok := (fun k_ => some k_ ≠ (.slice Ao17 t197.length co17 : Value).ownBlock)) (by (with_reducible repeat (first | apply Kd.R_alloc | apply Kd.R_drewN | apply Kd.R_drew)); exact Kd.R_mono HO205.out (fun _ hk => ⟨hk.1.2, hk.2⟩)) hg hat); have n3_ := Aside0.mk (hb); have n4_ := Aside0.mk (ho); clear BK193; clear HO199; clear HO205; clear HB; clear HO202; have BK193 := n0_; have HO199 := n1_; have HO205 := n2_; have HB := n3_; have HO208 := n4_; clear n0_ n1_ n2_ n3_ n4_; clear ho hb hg hat; have hcv22 := own_string (P := Try.prog) Try.underlying31 Try.underlying5 Try.underlying9 (Kd.own_of_R HO208.out); have hcz23_0 : w20.cell? ⟨gb193, 0, none⟩ = some (.int .i64 0) := (blk_cell BK193.out 0).trans rfl; have hcz23_1 : w20.cell? ⟨gb193, 1, none⟩ = some (.string (⟨#[]⟩ : ByteArray)) := (blk_cell BK193.out 1).trans rfl; have hfz23_0 := blk_frozen BK193.out 0; have hfz23_1 := blk_frozen BK193.out 1))
            refine bodyPost_ret (results_ct rfl _ _ gb193 26 #[.int .i64 2, .string (strOfNums y206)] (0, 0) _ rfl (by (with_reducible repeat (first | refine blk_drewN ?_ _ | refine blk_drew ?_ | refine blk_alloc ?_ _)); refine blk_put (cs := #[.int .i64 2, .string (⟨#[]⟩ : ByteArray)]) ?_ 1 _ rfl; (with_reducible repeat (first | refine blk_drewN ?_ _ | refine blk_drew ?_ | refine blk_alloc ?_ _)); refine blk_put (cs := #[.int .i64 0, .string (⟨#[]⟩ : ByteArray)]) ?_ 0 _ rfl; (with_reducible repeat (first | refine blk_drewN ?_ _ | refine blk_drew ?_ | refine blk_alloc ?_ _)); exact BK193.out) Try.underlying26 rfl (by kernel_rfl)) rfl ?_
            exact ⟨by first | rfl | (simp [errW_none, errW_some] <;> rfl) | (simp [*, errW_none, errW_some] <;> rfl), by repeat (first | (with_reducible first | exact HB.out | apply below_alloc | apply pw_below_drewN | apply below_drew1 | refine below_set ?_ GE193.out) | exact HB.out)⟩
          · rw [if_neg c13] at H
            exact absurd H (by simp)
        · rw [if_neg c12] at H
          exact absurd H (by simp)
/-! ### octets_Signed: function 52 -/
def octets_Signed.f (k : Nat) (l0 : List Int) (a1 : Int) (a2 : Int) : Option (Int × Bool) := if a2 < 1 then (some (0, false)) else (if a2 > 8 then (some (0, false)) else ((octets_none.f l0 a1 a2).bind fun t209 => (if t209 = true then (some (0, false)) else (if 0 ≤ a1 then (if a1 ≤ (wrap64 (a1 + a2)) then (if (wrap64 (a1 + a2)) ≤ (l0.length : Int) then ((octets_read.f k ((l0.take ((wrap64 (a1 + a2)) : Int).toNat).drop (a1 : Int).toNat)).bind fun t211 => (if 0 ≤ (wrap64 (64 - (wrap64 (8 * a2)))) then (some (shr .i64 (wrap64 (shl .u64 t211 (wrap64 (64 - (wrap64 (8 * a2)))))) (wrap64 (64 - (wrap64 (8 * a2)))), true)) else (none))) else (none)) else (none)) else (none)))))
set_option maxHeartbeats 8000000 in
set_option maxRecDepth 100000 in
theorem octets_Signed.calls (k : Nat) (A0 : Option Addr) (c0 : Nat) (l0 : List Int) (a1 : Int) (a2 : Int) (r1 : Int) (r2 : Bool) (w : World) (hr0 : Kd.C (Kd.int .u8) w A0 l0.length l0) (hc0 : l0.length ≤ c0) (h : octets_Signed.f k l0 a1 a2 = some (r1, r2)) :
    Calls Try.prog 52 #[.slice A0 l0.length c0, .int .i64 a1, .int .i64 a2] w fun e w' => e = .returned (.tuple #[.int .i64 r1, .bool r2]) ∧ Drawn0 w w' := by
  have HR0 := Aside0.mk hr0
  have HC0 := Aside0.mk hc0
  clear hr0 hc0
  have H : (if a2 < 1 then (some (0, false)) else (if a2 > 8 then (some (0, false)) else ((octets_none.f l0 a1 a2).bind fun t209 => (if t209 = true then (some (0, false)) else (if 0 ≤ a1 then (if a1 ≤ (wrap64 (a1 + a2)) then (if (wrap64 (a1 + a2)) ≤ (l0.length : Int) then ((octets_read.f k ((l0.take ((wrap64 (a1 + a2)) : Int).toNat).drop (a1 : Int).toNat)).bind fun t211 => (if 0 ≤ (wrap64 (64 - (wrap64 (8 * a2)))) then (some (shr .i64 (wrap64 (shl .u64 t211 (wrap64 (64 - (wrap64 (8 * a2)))))) (wrap64 (64 - (wrap64 (8 * a2)))), true)) else (none))) else (none)) else (none)) else (none)))))) = some (r1, r2) := h
  clear h
  by_cases c4 : a2 < 1
  · rw [if_pos c4] at H
    have c4b0 : decide (a2 < 1) = true := decide_eq_true c4
    clear c4
    simp only [Option.some.injEq, Prod.mk.injEq] at H
    obtain ⟨rfl, rfl⟩ := H
    go_enter Try.func52, Try.ntmps52
    go_wp2
    go_ret2
    exact ⟨by first | rfl | (simp; done) | (simp [*]; done), by repeat (first | exact Drawn0.refl _ | apply Drawn0.step)⟩
  · rw [if_neg c4] at H
    have c4b0 : decide (a2 < 1) = false := decide_eq_false c4
    clear c4
    by_cases c5 : a2 > 8
    · rw [if_pos c5] at H
      have c5b0 : decide (8 < a2) = true := decide_eq_true c5
      clear c5
      simp only [Option.some.injEq, Prod.mk.injEq] at H
      obtain ⟨rfl, rfl⟩ := H
      go_enter Try.func52, Try.ntmps52
      go_wp2
      go_ret2
      exact ⟨by first | rfl | (simp; done) | (simp [*]; done), by repeat (first | exact Drawn0.refl _ | apply Drawn0.step)⟩
    · rw [if_neg c5] at H
      have c5b0 : decide (8 < a2) = false := decide_eq_false c5
      clear c5
      replace H := Option.bind_eq_some_iff.mp H
      obtain ⟨t209, A60, H⟩ := H
      replace H : (if t209 = true then (some (0, false)) else (if 0 ≤ a1 then (if a1 ≤ (wrap64 (a1 + a2)) then (if (wrap64 (a1 + a2)) ≤ (l0.length : Int) then ((octets_read.f k ((l0.take ((wrap64 (a1 + a2)) : Int).toNat).drop (a1 : Int).toNat)).bind fun t211 => (if 0 ≤ (wrap64 (64 - (wrap64 (8 * a2)))) then (some (shr .i64 (wrap64 (shl .u64 t211 (wrap64 (64 - (wrap64 (8 * a2)))))) (wrap64 (64 - (wrap64 (8 * a2)))), true)) else (none))) else (none)) else (none)) else (none))) = some (r1, r2) := H
      have A6 := Aside0.mk A60
      clear A60
      by_cases c7 : t209 = true
      · subst c7
        have H1 : (some (0, false)) = some (r1, r2) := by rw [if_pos rfl] at H; exact H
        clear H
        have H := H1
        clear H1
        simp only [Option.some.injEq, Prod.mk.injEq] at H
        obtain ⟨rfl, rfl⟩ := H
        go_enter Try.func52, Try.ntmps52
        go_wp2_with (first | (go_at_call 49; (with_reducible refine (octets_none.calls _ _ l0 a1 a2 true _ ?side1 ?side2 A6.out).mono ?_); (case side1 => repeat (first | exact HR0.out | (with_reducible refine Kd.C_alloc ?_ _) | (with_reducible refine Kd.C_drewN ?_ _) | (with_reducible refine Kd.C_drew ?_))); (case side2 => exact HC0.out); rintro e w' ⟨rfl, ⟨nd, rfl⟩⟩))
        go_ret2
        exact ⟨by first | rfl | (simp; done) | (simp [*]; done), by repeat (first | exact Drawn0.refl _ | apply Drawn0.step)⟩
      · replace c7 := Bool.eq_false_iff.mpr c7
        subst c7
        have H1 : (if 0 ≤ a1 then (if a1 ≤ (wrap64 (a1 + a2)) then (if (wrap64 (a1 + a2)) ≤ (l0.length : Int) then ((octets_read.f k ((l0.take ((wrap64 (a1 + a2)) : Int).toNat).drop (a1 : Int).toNat)).bind fun t211 => (if 0 ≤ (wrap64 (64 - (wrap64 (8 * a2)))) then (some (shr .i64 (wrap64 (shl .u64 t211 (wrap64 (64 - (wrap64 (8 * a2)))))) (wrap64 (64 - (wrap64 (8 * a2)))), true)) else (none))) else (none)) else (none)) else (none)) = some (r1, r2) := by rw [if_neg (show ¬ (false = true) by decide)] at H; exact H
        clear H
        have H := H1
        clear H1
        by_cases c8 : 0 ≤ a1
        · rw [if_pos c8] at H
          have c8b0 := eq_true c8
          have c8b1 : decide (0 ≤ a1) = true := decide_eq_true c8
          clear c8
          by_cases c9 : a1 ≤ (wrap64 (a1 + a2))
          · rw [if_pos c9] at H
            have c9b0 := eq_true c9
            have c9b1 : decide (a1 ≤ (wrap64 (a1 + a2))) = true := decide_eq_true c9
            by_cases c10 : (wrap64 (a1 + a2)) ≤ (l0.length : Int)
            · rw [if_pos c10] at H
              have c10b0 := eq_true c10
              have c10b1 : decide ((wrap64 (a1 + a2)) ≤ (l0.length : Int)) = true := decide_eq_true c10
              replace H := Option.bind_eq_some_iff.mp H
              obtain ⟨t211, A110, H⟩ := H
              replace H : (if 0 ≤ (wrap64 (64 - (wrap64 (8 * a2)))) then (some (shr .i64 (wrap64 (shl .u64 t211 (wrap64 (64 - (wrap64 (8 * a2)))))) (wrap64 (64 - (wrap64 (8 * a2)))), true)) else (none)) = some (r1, r2) := H
              have A11 := Aside0.mk A110
              clear A110
              obtain ⟨ji12, hji12⟩ : ∃ j_ : Int, (wrap64 (64 - (wrap64 (8 * a2)))) = j_ := ⟨_, rfl⟩
              replace H : (if 0 ≤ (ji12) then (some (shr .i64 (wrap64 (shl .u64 t211 (ji12))) (ji12), true)) else (none)) = some (r1, r2) := by first | (rw [hji12] at H; exact H) | (simp only [hji12] at H ⊢; exact H)
              (try rw [hji12] at A6)
              (try rw [hji12] at A11)
              have hji12w : (IntKind.i64.wrap (64 - (wrap64 (8 * a2)))) = ji12 := (i64_w _).trans hji12
              by_cases c13 : 0 ≤ (ji12)
              · rw [if_pos c13] at H
                have c13b0 := eq_true c13
                have c13b1 : decide (0 ≤ (ji12)) = true := decide_eq_true c13
                clear c13
                obtain ⟨ji14, hji14⟩ : ∃ j_ : Int, (shl .u64 t211 (ji12)) = j_ := ⟨_, rfl⟩
                replace H : (some (shr .i64 (wrap64 (ji14)) (ji12), true)) = some (r1, r2) := by first | (rw [hji14] at H; exact H) | (simp only [hji14] at H ⊢; exact H)
                (try rw [hji14] at A6)
                (try rw [hji14] at A11)
                have hji14_ : (IntKind.u64.wrap (t211 * 2 ^ min (ji12).toNat 64)) = ji14 := hji14
                have hji14z : (ji12) ≤ 64 → (IntKind.u64.wrap (t211 * 2 ^ (ji12).toNat)) = ji14 := shl_small hji14
                have c15b0 := eq_true (of_decide_eq_true (by first | (with_reducible assumption) | assumption) : 0 ≤ (ji12))
                obtain ⟨ji16, hji16⟩ : ∃ j_ : Int, (shr .i64 (wrap64 (ji14)) (ji12)) = j_ := ⟨_, rfl⟩
                replace H : (some (ji16, true)) = some (r1, r2) := by first | (rw [hji16] at H; exact H) | (simp only [hji16] at H ⊢; exact H)
                (try rw [hji16] at A6)
                (try rw [hji16] at A11)
                have hji16_ : ((wrap64 (ji14)) / 2 ^ min (ji12).toNat 64) = ji16 := hji16
                have hji16z : (ji12) ≤ 64 → ((wrap64 (ji14)) / 2 ^ (ji12).toNat) = ji16 := shr_small hji16
                simp only [Option.some.injEq, Prod.mk.injEq] at H
                obtain ⟨rfl, rfl⟩ := H
                go_enter Try.func52, Try.ntmps52
                go_wp2_with (first | (go_at_call 49; (with_reducible refine (octets_none.calls _ _ l0 a1 a2 false _ ?side1 ?side2 A6.out).mono ?_); (case side1 => repeat (first | exact HR0.out | (with_reducible refine Kd.C_alloc ?_ _) | (with_reducible refine Kd.C_drewN ?_ _) | (with_reducible refine Kd.C_drew ?_))); (case side2 => exact HC0.out); rintro e w' ⟨rfl, ⟨nd, rfl⟩⟩; obtain ⟨i017, hi017, _, hsz17, _⟩ := info_parts info5; obtain ⟨A17, hcut17, hA17, hC17⟩ := print_mid_of (P := Try.prog) (Value.int .u8) 0 31 5 .i64 .i64 Try.underlying31 hi017 hsz17 A0 c0 l0 a1 (wrap64 (a1 + a2)) (of_decide_eq_true (by first | (with_reducible assumption) | assumption)) (by first | omega | exact of_decide_eq_true (by first | (with_reducible assumption) | assumption)) (of_decide_eq_true (by first | (with_reducible assumption) | assumption)) HC0.out; have HR210 := Aside0.mk (Kd.C_of_reads (h1 := fun _ => rfl) (hA17 _ (Kd.reads_of_C HR0.out))); have HC210 := Aside0.mk hC17; clear hA17 hC17 hi017 hsz17) | ((with_reducible refine gate_callee (f := 50) rfl ?_); refine goesL_ (some 30) rfl rfl Try.func50 (by kernel_rfl) rfl #[.slice A17 ((l0.take ((wrap64 (a1 + a2)) : Int).toNat).drop (a1 : Int).toNat).length (c0 - a1.toNat)] rfl (by (try simp only [List.map_toArray, List.map_cons, List.map_nil]); first | done | (rw [show ((l0.take ((wrap64 (a1 + a2)) : Int).toNat).drop (a1 : Int).toNat).length = ((wrap64 (a1 + a2)).toNat - a1.toNat) from (by rw [List.length_drop, List.length_take]; have h_ : ((wrap64 (a1 + a2)) : Int) ≤ (l0.length : Int) := of_decide_eq_true (by first | (with_reducible assumption) | assumption); omega)] <;> rfl) | rfl | (simp only [List.length_drop, List.length_take]; rfl)) ?_; (with_reducible refine (octets_read.calls k _ _ ((l0.take ((wrap64 (a1 + a2)) : Int).toNat).drop (a1 : Int).toNat) t211 _ ?side1 ?side2 A11.out).mono ?_); (case side1 => repeat (first | exact HR210.out | (with_reducible refine Kd.C_alloc ?_ _) | (with_reducible refine Kd.C_drewN ?_ _) | (with_reducible refine Kd.C_drew ?_))); (case side2 => exact HC210.out); rintro e w' ⟨rfl, ⟨nd, rfl⟩⟩; refine ⟨_, rfl, ?_⟩))
                go_ret2
                exact ⟨by first | rfl | (simp; done) | (simp only [← hji12, ← hji14, ← hji16] <;> (first | rfl | simp)) | (simp [*]; done), by repeat (first | exact Drawn0.refl _ | apply Drawn0.step)⟩
              · rw [if_neg c13] at H
                exact absurd H (by simp)
            · rw [if_neg c10] at H
              exact absurd H (by simp)
          · rw [if_neg c9] at H
            exact absurd H (by simp)
        · rw [if_neg c8] at H
          exact absurd H (by simp)
/-! ### octets_GetId: function 47 -/
def octets_GetId.f (k : Nat) (l0 : List Int) (a1 : Int) : Option (Int × Bool) := (octets_Signed.f k l0 a1 8).bind fun bt212 => (some (IntKind.u64.wrap (bt212.1), bt212.2))
set_option maxHeartbeats 8000000 in
set_option maxRecDepth 100000 in
theorem octets_GetId.calls (k : Nat) (A0 : Option Addr) (c0 : Nat) (l0 : List Int) (a1 : Int) (r1 : Int) (r2 : Bool) (w : World) (hr0 : Kd.C (Kd.int .u8) w A0 l0.length l0) (hc0 : l0.length ≤ c0) (h : octets_GetId.f k l0 a1 = some (r1, r2)) :
    Calls Try.prog 47 #[.slice A0 l0.length c0, .int .i64 a1] w fun e w' => e = .returned (.tuple #[.int .u64 r1, .bool r2]) ∧ Drawn0 w w' := by
  have HR0 := Aside0.mk hr0
  have HC0 := Aside0.mk hc0
  clear hr0 hc0
  have H : ((octets_Signed.f k l0 a1 8).bind fun bt212 => (some (IntKind.u64.wrap (bt212.1), bt212.2))) = some (r1, r2) := h
  clear h
  replace H := Option.bind_eq_some_iff.mp H
  obtain ⟨⟨t212, t213⟩, A30, H⟩ := H
  replace H : (some (IntKind.u64.wrap (t212), t213)) = some (r1, r2) := H
  have A3 := Aside0.mk A30
  clear A30
  simp only [Option.some.injEq, Prod.mk.injEq] at H
  obtain ⟨rfl, rfl⟩ := H
  go_enter Try.func47, Try.ntmps47
  go_wp2_with (first | ((with_reducible refine gate_callee (f := 52) rfl ?_); refine goesL_ (some 11) rfl rfl Try.func52 (by kernel_rfl) rfl #[.slice A0 l0.length c0, .int .i64 a1, .int .i64 8] rfl (by (try simp only [List.map_toArray, List.map_cons, List.map_nil]); first | done | rfl | (simp only [List.length_drop, List.length_take]; rfl)) ?_; (with_reducible refine (octets_Signed.calls k _ _ l0 a1 8 t212 t213 _ ?side1 ?side2 A3.out).mono ?_); (case side1 => repeat (first | exact HR0.out | (with_reducible refine Kd.C_alloc ?_ _) | (with_reducible refine Kd.C_drewN ?_ _) | (with_reducible refine Kd.C_drew ?_))); (case side2 => exact HC0.out); rintro e w' ⟨rfl, ⟨nd, rfl⟩⟩; refine ⟨_, rfl, ?_⟩))
  go_ret2
  exact ⟨by first | rfl | (simp; done) | (simp [*]; done), by repeat (first | exact Drawn0.refl _ | apply Drawn0.step)⟩
/-! ### tlv_PathOf: function 33: by our own printer -/
def tlv_PathOf.l1 (k : Nat) : Nat → Int → ByteArray → (List Int) → Int → Option (List Int × Bool)
  | 0, _, _, _, _ => none
  | n1 + 1, x1_1_0, x1_1_1, y1_4, x1_5 => if x1_5 < (x1_1_1.size : Int) then (if x1_1_1.size ≤ 9223372036854775807 then ((octets_GetId.f k (bytesOf x1_1_1) x1_5).bind fun t1007 => (if (y1_4.length + [t1007.1].length) * 8 ≤ 140737488355328 then (tlv_PathOf.l1 k n1 x1_1_0 x1_1_1 (y1_4 ++ [t1007.1] : List Int) (wrap64 (x1_5 + 8))) else (none))) else (none)) else (some (y1_4, true))
def tlv_PathOf.f (k : Nat) (a0_0 : Int) (a0_1 : ByteArray) : Option (List Int × Bool) := if a0_0 = 8 then ((tlv_Known.f a0_0 a0_1).bind fun t7 => (if t7 = true then (tlv_PathOf.l1 k k a0_0 a0_1 [] 0) else (some ([], false)))) else (some ([], false))
open Go.Proofs.Ytgmiokocipmbaaa.E in
set_option maxHeartbeats 60000000 in
set_option maxRecDepth 100000 in
theorem tlv_PathOf.calls (k : Nat) (a0_0 : Int) (a0_1 : ByteArray) (r1 : List Int) (r2 : Bool) (w : World) (h : tlv_PathOf.f k a0_0 a0_1 = some (r1, r2)) :
    Calls Try.prog 33 #[.agg #[.int .i64 a0_0, .string a0_1]] w fun e w' => ∃ v0_ : Value, e = .returned (.tuple #[v0_, .bool r2]) ∧ Kd.R (Kd.int .u64) 58 w' w.heap.size (fun _ => True) v0_ r1 ∧ Below w.heap.size w w' := by
  have H := h
  clear h
  unfold tlv_PathOf.f at H
  by_cases c1 : a0_0 = 8
  rotate_left
  · rw [if_neg c1] at H
    simp only [Option.some.injEq, Prod.mk.injEq] at H
    obtain ⟨rfl, rfl⟩ := H
    refine calls_of_wp (fn := Try.f33) (by kernel_rfl) rfl ?_
    have hS := St.enter #[.agg #[.int .i64 a0_0, .string a0_1]] 36 (by simp) [(0, .agg #[.int .i64 a0_0, .string a0_1])] (by simp)
    have HB0 := Below.refl w.heap.size w
    refine wp_seq_k (fun K1 hK1 => ?_)
    refine reg_seq (N := 36) (bs := [(0, .agg #[.int .i64 a0_0, .string a0_1])]) (I := fun x => Below w.heap.size w x) (ps := [IsB #[.int .i64 a0_0, .string a0_1] 26 w.heap.size, IsV (.slice none 0 0), VB false]) (by kernel_rfl) ?_ ?_ rfl hS HB0 ?_ ?_
    · exact fun x y hI hb => below_step hI hb
    · exact .cons (Stays.b _ _ _) (.v (.v (.nil)))
    · refine .on rfl (fun a w hS hI hp => does_var (x_box rfl (congrArg Value.cells (hS.get 0 rfl))) (hI).size) ?_
      iterate 2 refine .on rfl (fun a w hS hI hp => does_val (x_assign rfl (rfl)) rfl) ?_
      exact .nil
    clear hS
    intro at2 w3 hS hI hp
    have hBw3_w := hI
    replace hS := hS.nil
    obtain ⟨g4, hv1, hgeg4, hbxg4⟩ := (show IsB _ 26 _ (sl _ 1) _ from hp 0 (by decide))
    have hBw3_w3 := Below.refl w3.heap.size w3
    have hS := hS.cons hv1
    clear hp hI hv1
    refine hK1 _ _ ?_
    (try clear hK1 K1)
    refine wp_seq_k (fun K5 hK5 => ?_)
    refine wp_seq_k (fun K6 hK6 => ?_)
    refine reg_seq (N := 36) (bs := [(1, .pointer (some ⟨g4, 0, none⟩))]) (I := fun x => Below w.heap.size w x ∧ Below w3.heap.size w3 x) (ps := [VP g4 0, VI a0_0, VB (!decide (a0_0 = 8)), VB (!decide (a0_0 = 8)), VU, VU, VU, VB true]) (by kernel_rfl) ?_ ?_ rfl hS ⟨hBw3_w, hBw3_w3⟩ ?_ ?_
    · exact fun x y hI hb => ⟨below_step hI.1 hb, below_step hI.2 hb⟩
    · exact .v (.v (.v (.v (.v (.v (.v (.v (.nil))))))))
    · refine .on rfl (fun a w hS hI hp => does_val (x_fieldE (b := 0) rfl (hS.get 0 rfl) Try.underlying26 rfl rfl (by kernel_rfl)) rfl) ?_
      refine .on rfl (fun a w hS hI hp => does_val (x_load1 (d := .int .i64) rfl (hp.V 0 rfl rfl) (by kernel_rfl) rfl ((blk_cell (((hI.2).block g4 (blk_lt hbxg4)).trans hbxg4) 0).trans rfl)) rfl) ?_
      refine .on rfl (fun a w hS hI hp => does_val (x_bin rfl (hp.V 1 rfl rfl) (rfl) (b_neq _ _ _ _ _ _)) rfl) ?_
      refine .mv 2 rfl rfl rfl rfl ?_
      iterate 3 refine .sn 3 11 rfl rfl rfl rfl rfl ((congrArg (!·) (decide_eq_false c1))) ?_
      refine .on rfl (fun a w hS hI hp => does_val (x_pickT rfl ((hp.V 3 rfl rfl).trans (bT (congrArg (!·) (decide_eq_false c1)))) (rfl)) rfl) ?_
      exact .nil
    clear hS
    intro at7 w8 hS hI hp
    have hBw8_w := hI.1
    have hBw8_w3 := hI.2
    have hv15 : sl _ 15 = .bool true := hp 7 (by decide)
    have hBw8_w8 := Below.refl w8.heap.size w8
    have hS := hS.cons hv15
    clear hp hI hv15
    refine hK6 _ _ ?_
    (try clear hK6 K6)
    refine wp_cond_true ((hS.get 0 rfl).trans (bT rfl)) ?_
    refine wp_seq_k (fun K9 hK9 => ?_)
    refine reg_seq (N := 36) (bs := [(15, .bool true), (1, .pointer (some ⟨g4, 0, none⟩))]) (I := fun x => Below w.heap.size w x ∧ Below w3.heap.size w3 x ∧ Below w8.heap.size w8 x) (ps := [IsV (.slice none 0 0), VB false]) (by kernel_rfl) ?_ ?_ rfl hS ⟨hBw8_w, hBw8_w3, hBw8_w8⟩ ?_ ?_
    · exact fun x y hI hb => ⟨below_step hI.1 hb, below_step hI.2.1 hb, below_step hI.2.2 hb⟩
    · exact .v (.v (.nil))
    · refine .on rfl (fun a w hS hI hp => does_val (x_assign rfl (rfl)) rfl) ?_
      refine .on rfl (fun a w hS hI hp => does_val (x_assign rfl (rfl)) rfl) ?_
      exact .nil
    clear hS
    intro at10 w11 hS hI hp
    have hBw11_w := hI.1
    have hBw11_w3 := hI.2.1
    have hBw11_w8 := hI.2.2
    replace hS := hS.nil
    have hv2 : sl _ 2 = .slice none 0 0 := hp 0 (by decide)
    have hv3 : sl _ 3 = .bool false := hp 1 (by decide)
    have hBw11_w11 := Below.refl w11.heap.size w11
    have hS := hS.cons hv2
    have hS := hS.cons hv3
    clear hp hI hv2 hv3
    refine hK9 _ _ ?_
    (try clear hK9 K9)
    refine wp_ret ?_
    (try simp only [Exit.then, Exit.inBlock, Exit.jump, Exit.noGoto])
    exact bodyPost_ret (v := .tuple #[.slice none 0 0, .bool false]) (results_list (rs := [.tmp 2, .tmp 3]) rfl (by simp) (Vals.at (hS.get 1 rfl) (Vals.at (hS.get 0 rfl) .nil))) hS.nodef ⟨.slice none 0 0, rfl, Kd.R_nil _ _ _ _ _, hBw11_w⟩
  rw [if_pos c1] at H
  obtain ⟨t7, At7, H⟩ := Option.bind_eq_some_iff.mp H
  by_cases c2 : t7 = true
  rotate_left
  · rw [if_neg c2] at H
    simp only [Option.some.injEq, Prod.mk.injEq] at H
    obtain ⟨rfl, rfl⟩ := H
    refine calls_of_wp (fn := Try.f33) (by kernel_rfl) rfl ?_
    have hS := St.enter #[.agg #[.int .i64 a0_0, .string a0_1]] 36 (by simp) [(0, .agg #[.int .i64 a0_0, .string a0_1])] (by simp)
    have HB0 := Below.refl w.heap.size w
    refine wp_seq_k (fun K1 hK1 => ?_)
    refine reg_seq (N := 36) (bs := [(0, .agg #[.int .i64 a0_0, .string a0_1])]) (I := fun x => Below w.heap.size w x) (ps := [IsB #[.int .i64 a0_0, .string a0_1] 26 w.heap.size, IsV (.slice none 0 0), VB false]) (by kernel_rfl) ?_ ?_ rfl hS HB0 ?_ ?_
    · exact fun x y hI hb => below_step hI hb
    · exact .cons (Stays.b _ _ _) (.v (.v (.nil)))
    · refine .on rfl (fun a w hS hI hp => does_var (x_box rfl (congrArg Value.cells (hS.get 0 rfl))) (hI).size) ?_
      iterate 2 refine .on rfl (fun a w hS hI hp => does_val (x_assign rfl (rfl)) rfl) ?_
      exact .nil
    clear hS
    intro at2 w3 hS hI hp
    have hBw3_w := hI
    replace hS := hS.nil
    obtain ⟨g4, hv1, hgeg4, hbxg4⟩ := (show IsB _ 26 _ (sl _ 1) _ from hp 0 (by decide))
    have hBw3_w3 := Below.refl w3.heap.size w3
    have hS := hS.cons hv1
    clear hp hI hv1
    refine hK1 _ _ ?_
    (try clear hK1 K1)
    refine wp_seq_k (fun K5 hK5 => ?_)
    refine wp_seq_k (fun K6 hK6 => ?_)
    refine reg_seq (N := 36) (bs := [(1, .pointer (some ⟨g4, 0, none⟩))]) (I := fun x => Below w.heap.size w x ∧ Below w3.heap.size w3 x) (ps := [VP g4 0, VI a0_0, VB (!decide (a0_0 = 8)), VB (!decide (a0_0 = 8)), IsV (.agg #[.int .i64 a0_0, .string a0_1]), VB t7, VB (!t7), VB (!t7)]) (by kernel_rfl) ?_ ?_ rfl hS ⟨hBw3_w, hBw3_w3⟩ ?_ ?_
    · exact fun x y hI hb => ⟨below_step hI.1 hb, below_step hI.2 hb⟩
    · exact .v (.v (.v (.v (.v (.v (.v (.v (.nil))))))))
    · refine .on rfl (fun a w hS hI hp => does_val (x_fieldE (b := 0) rfl (hS.get 0 rfl) Try.underlying26 rfl rfl (by kernel_rfl)) rfl) ?_
      refine .on rfl (fun a w hS hI hp => does_val (x_load1 (d := .int .i64) rfl (hp.V 0 rfl rfl) (by kernel_rfl) rfl ((blk_cell (((hI.2).block g4 (blk_lt hbxg4)).trans hbxg4) 0).trans rfl)) rfl) ?_
      refine .on rfl (fun a w hS hI hp => does_val (x_bin rfl (hp.V 1 rfl rfl) (rfl) (b_neq _ _ _ _ _ _)) rfl) ?_
      refine .mv 2 rfl rfl rfl rfl ?_
      refine .oy 3 11 rfl rfl rfl rfl rfl ((congrArg (!·) (decide_eq_true c1))) (fun a w hS hI hp => does_loadrow rfl (hS.get 0 rfl) (((hI.2).block g4 (blk_lt hbxg4)).trans hbxg4) Try.underlying26 rfl (by kernel_rfl) rfl) ?_
      refine .oy 3 11 rfl rfl rfl rfl rfl ((congrArg (!·) (decide_eq_true c1))) (fun a w hS hI hp => does_call (by kernel_rfl) (ar1 (hp.V 4 rfl rfl)) ((tlv_Known.calls a0_0 a0_1 t7 _  At7).mono fun _ _ h => ⟨_, h.1, h.2, rfl⟩)) ?_
      refine .oy 3 11 rfl rfl rfl rfl rfl ((congrArg (!·) (decide_eq_true c1))) (fun a w hS hI hp => does_val (x_not rfl (hp.V 5 rfl rfl)) rfl) ?_
      refine .on rfl (fun a w hS hI hp => does_val (x_pickF rfl ((hp.V 3 rfl rfl).trans (bF (congrArg (!·) (decide_eq_true c1)))) (hp.V 6 rfl rfl)) rfl) ?_
      exact .nil
    clear hS
    intro at8 w9 hS hI hp
    have hBw9_w := hI.1
    have hBw9_w3 := hI.2
    have hv15 : sl _ 15 = .bool (!t7) := hp 7 (by decide)
    have hBw9_w9 := Below.refl w9.heap.size w9
    have hS := hS.cons hv15
    clear hp hI hv15
    refine hK6 _ _ ?_
    (try clear hK6 K6)
    refine wp_cond_true ((hS.get 0 rfl).trans (bT (congrArg (!·) (Bool.eq_false_iff.2 c2)))) ?_
    refine wp_seq_k (fun K10 hK10 => ?_)
    refine reg_seq (N := 36) (bs := [(15, .bool (!t7)), (1, .pointer (some ⟨g4, 0, none⟩))]) (I := fun x => Below w.heap.size w x ∧ Below w3.heap.size w3 x ∧ Below w9.heap.size w9 x) (ps := [IsV (.slice none 0 0), VB false]) (by kernel_rfl) ?_ ?_ rfl hS ⟨hBw9_w, hBw9_w3, hBw9_w9⟩ ?_ ?_
    · exact fun x y hI hb => ⟨below_step hI.1 hb, below_step hI.2.1 hb, below_step hI.2.2 hb⟩
    · exact .v (.v (.nil))
    · refine .on rfl (fun a w hS hI hp => does_val (x_assign rfl (rfl)) rfl) ?_
      refine .on rfl (fun a w hS hI hp => does_val (x_assign rfl (rfl)) rfl) ?_
      exact .nil
    clear hS
    intro at11 w12 hS hI hp
    have hBw12_w := hI.1
    have hBw12_w3 := hI.2.1
    have hBw12_w9 := hI.2.2
    replace hS := hS.nil
    have hv2 : sl _ 2 = .slice none 0 0 := hp 0 (by decide)
    have hv3 : sl _ 3 = .bool false := hp 1 (by decide)
    have hBw12_w12 := Below.refl w12.heap.size w12
    have hS := hS.cons hv2
    have hS := hS.cons hv3
    clear hp hI hv2 hv3
    refine hK10 _ _ ?_
    (try clear hK10 K10)
    refine wp_ret ?_
    (try simp only [Exit.then, Exit.inBlock, Exit.jump, Exit.noGoto])
    exact bodyPost_ret (v := .tuple #[.slice none 0 0, .bool false]) (results_list (rs := [.tmp 2, .tmp 3]) rfl (by simp) (Vals.at (hS.get 1 rfl) (Vals.at (hS.get 0 rfl) .nil))) hS.nodef ⟨.slice none 0 0, rfl, Kd.R_nil _ _ _ _ _, hBw12_w⟩
  rw [if_pos c2] at H
  refine calls_of_wp (fn := Try.f33) (by kernel_rfl) rfl ?_
  have hS := St.enter #[.agg #[.int .i64 a0_0, .string a0_1]] 36 (by simp) [(0, .agg #[.int .i64 a0_0, .string a0_1])] (by simp)
  have HB0 := Below.refl w.heap.size w
  refine wp_seq_k (fun K1 hK1 => ?_)
  refine reg_seq (N := 36) (bs := [(0, .agg #[.int .i64 a0_0, .string a0_1])]) (I := fun x => Below w.heap.size w x) (ps := [IsB #[.int .i64 a0_0, .string a0_1] 26 w.heap.size, IsV (.slice none 0 0), VB false]) (by kernel_rfl) ?_ ?_ rfl hS HB0 ?_ ?_
  · exact fun x y hI hb => below_step hI hb
  · exact .cons (Stays.b _ _ _) (.v (.v (.nil)))
  · refine .on rfl (fun a w hS hI hp => does_var (x_box rfl (congrArg Value.cells (hS.get 0 rfl))) (hI).size) ?_
    iterate 2 refine .on rfl (fun a w hS hI hp => does_val (x_assign rfl (rfl)) rfl) ?_
    exact .nil
  clear hS
  intro at2 w3 hS hI hp
  have hBw3_w := hI
  replace hS := hS.nil
  obtain ⟨g4, hv1, hgeg4, hbxg4⟩ := (show IsB _ 26 _ (sl _ 1) _ from hp 0 (by decide))
  have hBw3_w3 := Below.refl w3.heap.size w3
  have hS := hS.cons hv1
  clear hp hI hv1
  refine hK1 _ _ ?_
  (try clear hK1 K1)
  refine wp_seq_k (fun K5 hK5 => ?_)
  refine wp_seq_k (fun K6 hK6 => ?_)
  refine reg_seq (N := 36) (bs := [(1, .pointer (some ⟨g4, 0, none⟩))]) (I := fun x => Below w.heap.size w x ∧ Below w3.heap.size w3 x) (ps := [VP g4 0, VI a0_0, VB (!decide (a0_0 = 8)), VB (!decide (a0_0 = 8)), IsV (.agg #[.int .i64 a0_0, .string a0_1]), VB t7, VB (!t7), VB (!t7)]) (by kernel_rfl) ?_ ?_ rfl hS ⟨hBw3_w, hBw3_w3⟩ ?_ ?_
  · exact fun x y hI hb => ⟨below_step hI.1 hb, below_step hI.2 hb⟩
  · exact .v (.v (.v (.v (.v (.v (.v (.v (.nil))))))))
  · refine .on rfl (fun a w hS hI hp => does_val (x_fieldE (b := 0) rfl (hS.get 0 rfl) Try.underlying26 rfl rfl (by kernel_rfl)) rfl) ?_
    refine .on rfl (fun a w hS hI hp => does_val (x_load1 (d := .int .i64) rfl (hp.V 0 rfl rfl) (by kernel_rfl) rfl ((blk_cell (((hI.2).block g4 (blk_lt hbxg4)).trans hbxg4) 0).trans rfl)) rfl) ?_
    refine .on rfl (fun a w hS hI hp => does_val (x_bin rfl (hp.V 1 rfl rfl) (rfl) (b_neq _ _ _ _ _ _)) rfl) ?_
    refine .mv 2 rfl rfl rfl rfl ?_
    refine .oy 3 11 rfl rfl rfl rfl rfl ((congrArg (!·) (decide_eq_true c1))) (fun a w hS hI hp => does_loadrow rfl (hS.get 0 rfl) (((hI.2).block g4 (blk_lt hbxg4)).trans hbxg4) Try.underlying26 rfl (by kernel_rfl) rfl) ?_
    refine .oy 3 11 rfl rfl rfl rfl rfl ((congrArg (!·) (decide_eq_true c1))) (fun a w hS hI hp => does_call (by kernel_rfl) (ar1 (hp.V 4 rfl rfl)) ((tlv_Known.calls a0_0 a0_1 t7 _  At7).mono fun _ _ h => ⟨_, h.1, h.2, rfl⟩)) ?_
    refine .oy 3 11 rfl rfl rfl rfl rfl ((congrArg (!·) (decide_eq_true c1))) (fun a w hS hI hp => does_val (x_not rfl (hp.V 5 rfl rfl)) rfl) ?_
    refine .on rfl (fun a w hS hI hp => does_val (x_pickF rfl ((hp.V 3 rfl rfl).trans (bF (congrArg (!·) (decide_eq_true c1)))) (hp.V 6 rfl rfl)) rfl) ?_
    exact .nil
  clear hS
  intro at8 w9 hS hI hp
  have hBw9_w := hI.1
  have hBw9_w3 := hI.2
  have hv15 : sl _ 15 = .bool (!t7) := hp 7 (by decide)
  have hBw9_w9 := Below.refl w9.heap.size w9
  have hS := hS.cons hv15
  clear hp hI hv15
  refine hK6 _ _ ?_
  (try clear hK6 K6)
  refine wp_cond_false ((hS.get 0 rfl).trans (bF (congrArg (!·) c2))) ?_
  refine wp_skip ?_
  refine hK5 _ _ ?_
  (try clear hK5 K5)
  refine wp_seq_k (fun K10 hK10 => ?_)
  refine reg_seq (N := 36) (bs := [(15, .bool (!t7)), (1, .pointer (some ⟨g4, 0, none⟩))]) (I := fun x => Below w.heap.size w x ∧ Below w3.heap.size w3 x ∧ Below w9.heap.size w9 x) (ps := [IsV (.slice none 0 0)]) (by kernel_rfl) ?_ ?_ rfl hS ⟨hBw9_w, hBw9_w3, hBw9_w9⟩ ?_ ?_
  · exact fun x y hI hb => ⟨below_step hI.1 hb, below_step hI.2.1 hb, below_step hI.2.2 hb⟩
  · exact .v (.nil)
  · refine .on rfl (fun a w hS hI hp => does_val (x_assign rfl (rfl)) rfl) ?_
    exact .nil
  clear hS
  intro at11 w12 hS hI hp
  have hBw12_w := hI.1
  have hBw12_w3 := hI.2.1
  have hBw12_w9 := hI.2.2
  replace hS := (hS.nil).cons (hS.get 1 rfl)
  have hv4 : sl _ 4 = .slice none 0 0 := hp 0 (by decide)
  have hBw12_w12 := Below.refl w12.heap.size w12
  have hS := hS.cons hv4
  clear hp hI hv4
  refine hK10 _ _ ?_
  (try clear hK10 K10)
  refine wp_seq_k (fun K13 hK13 => ?_)
  refine wp_seq_k (fun K14 hK14 => ?_)
  refine reg_seq (N := 36) (bs := [(4, .slice none 0 0), (1, .pointer (some ⟨g4, 0, none⟩))]) (I := fun x => Below w.heap.size w x ∧ Below w3.heap.size w3 x ∧ Below w12.heap.size w12 x) (ps := [VI 0]) (by kernel_rfl) ?_ ?_ rfl hS ⟨hBw12_w, hBw12_w3, hBw12_w12⟩ ?_ ?_
  · exact fun x y hI hb => ⟨below_step hI.1 hb, below_step hI.2.1 hb, below_step hI.2.2 hb⟩
  · exact .v (.nil)
  · refine .on rfl (fun a w hS hI hp => does_val (x_assign rfl (rfl)) rfl) ?_
    exact .nil
  clear hS
  intro at15 w16 hS hI hp
  have hBw16_w := hI.1
  have hBw16_w3 := hI.2.1
  have hBw16_w12 := hI.2.2
  have hv5 : sl _ 5 = .int .i64 0 := hp 0 (by decide)
  have hBw16_w16 := Below.refl w16.heap.size w16
  have hS := hS.cons hv5
  clear hp hI hv5
  refine hK14 _ _ ?_
  (try clear hK14 K14)
  refine wp_block ?_
  replace hS := (((hS.nil).cons (hS.get 0 rfl)).cons (hS.get 1 rfl)).cons (hS.get 2 rfl)
  refine wp_loop_ghost (fun n_ a_ wL1 => ∃ (x1_1_0 : Int) (x1_1_1 : ByteArray) (gL1_1 : Nat) (y1_4 : List Int) (AL1_4 : Option Addr) (CL1_4 : Nat) (x1_5 : Int), tlv_PathOf.l1 k n_ x1_1_0 x1_1_1 y1_4 x1_5 = some (r1, r2) ∧ St 36 [(1, .pointer (some ⟨gL1_1, 0, none⟩)), (4, .slice AL1_4 y1_4.length CL1_4), (5, .int .i64 x1_5)] a_ ∧ Below w.heap.size w wL1 ∧ w.heap.size ≤ gL1_1 ∧ wL1.heap[gL1_1]? = some (.cells #[.int .i64 x1_1_0, .string x1_1_1] 26 (0, 0)) ∧ y1_4.length ≤ CL1_4 ∧ Kd.R (Kd.int .u64) 58 wL1 w.heap.size (fun _ => True) (.slice AL1_4 y1_4.length CL1_4) y1_4) k ⟨a0_0, a0_1, g4, [], none, 0, 0, H, hS, hBw16_w, hgeg4, ((hBw16_w3.block g4 (blk_lt hbxg4)).trans hbxg4), (Nat.le_refl _), (Kd.R_nil _ _ _ _ _)⟩ ?_
  clear H hS
  rintro n1 aL1 wL1 ⟨x1_1_0, x1_1_1, gL1_1, y1_4, AL1_4, CL1_4, x1_5, H, hS, hBwL1_w, hgeLgL1_1, hbxLgL1_1, hr1_4, hoL1_4⟩
  rcases n1 with _ | n1
  · exact absurd H (by simp [tlv_PathOf.l1])
  rw [tlv_PathOf.l1] at H
  (try dsimp only at H)
  by_cases c3 : x1_5 < (x1_1_1.size : Int)
  rotate_left
  · rw [if_neg c3] at H
    simp only [Option.some.injEq, Prod.mk.injEq] at H
    obtain ⟨rfl, rfl⟩ := H
    have hBwL1_wL1 := Below.refl wL1.heap.size wL1
    refine wp_seq_k (fun K1001 hK1001 => ?_)
    refine wp_seq_k (fun K1002 hK1002 => ?_)
    refine reg_seq (N := 36) (bs := [(1, .pointer (some ⟨gL1_1, 0, none⟩)), (4, .slice AL1_4 y1_4.length CL1_4), (5, .int .i64 x1_5)]) (I := fun x => Below w.heap.size w x ∧ Below wL1.heap.size wL1 x) (ps := [VI x1_5, VP gL1_1 1, IsV (.string x1_1_1), VI (x1_1_1.size : Int), VB (decide (x1_5 < (x1_1_1.size : Int)))]) (by kernel_rfl) ?_ ?_ rfl hS ⟨hBwL1_w, hBwL1_wL1⟩ ?_ ?_
    · exact fun x y hI hb => ⟨below_step hI.1 hb, below_step hI.2 hb⟩
    · exact .v (.v (.v (.v (.v (.nil)))))
    · refine .ms 2 rfl rfl rfl ?_
      refine .on rfl (fun a w hS hI hp => does_val (x_fieldE (b := 0) rfl (hS.get 0 rfl) Try.underlying26 rfl rfl (by kernel_rfl)) rfl) ?_
      refine .on rfl (fun a w hS hI hp => does_val (x_load1 (d := .string) rfl (hp.V 1 rfl rfl) (by kernel_rfl) rfl ((blk_cell (((hI.2).block gL1_1 (blk_lt hbxLgL1_1)).trans hbxLgL1_1) 1).trans rfl)) rfl) ?_
      refine .on rfl (fun a w hS hI hp => does_val (x_lenS rfl (by kernel_rfl) (hp.V 2 rfl rfl)) rfl) ?_
      refine .on rfl (fun a w hS hI hp => does_val (x_bin rfl (hp.V 0 rfl rfl) (hp.V 3 rfl rfl) (b_lss _ _ _ _ _ _)) rfl) ?_
      exact .nil
    clear hS
    intro at1003 w1004 hS hI hp
    have hBw1004_w := hI.1
    have hBw1004_wL1 := hI.2
    have hv20 : sl _ 20 = .bool (decide (x1_5 < (x1_1_1.size : Int))) := hp 4 (by decide)
    have hBw1004_w1004 := Below.refl w1004.heap.size w1004
    have hS := hS.cons hv20
    clear hp hI hv20
    refine hK1002 _ _ ?_
    (try clear hK1002 K1002)
    refine wp_cond_false ((hS.get 0 rfl).trans (bF (decide_eq_false c3))) ?_
    refine wp_exit ?_
    (try simp only [Exit.then, Exit.inBlock, reduceIte])
    refine hK13 _ _ ?_
    (try clear hK13 K13)
    refine wp_seq_k (fun K1005 hK1005 => ?_)
    refine reg_seq (N := 36) (bs := [(20, .bool (decide (x1_5 < (x1_1_1.size : Int)))), (1, .pointer (some ⟨gL1_1, 0, none⟩)), (4, .slice AL1_4 y1_4.length CL1_4), (5, .int .i64 x1_5)]) (I := fun x => Below w.heap.size w x ∧ Below wL1.heap.size wL1 x ∧ Below w1004.heap.size w1004 x) (ps := [IsV (.slice AL1_4 y1_4.length CL1_4), IsV (.slice AL1_4 y1_4.length CL1_4), VB true]) (by kernel_rfl) ?_ ?_ rfl hS ⟨hBw1004_w, hBw1004_wL1, hBw1004_w1004⟩ ?_ ?_
    · exact fun x y hI hb => ⟨below_step hI.1 hb, below_step hI.2.1 hb, below_step hI.2.2 hb⟩
    · exact .v (.v (.v (.nil)))
    · refine .ms 2 rfl rfl rfl ?_
      refine .asg 0 rfl rfl rfl rfl ?_
      refine .on rfl (fun a w hS hI hp => does_val (x_assign rfl (rfl)) rfl) ?_
      exact .nil
    clear hS
    intro at1006 w1007 hS hI hp
    have hBw1007_w := hI.1
    have hBw1007_wL1 := hI.2.1
    have hBw1007_w1004 := hI.2.2
    replace hS := hS.nil
    have hv2 : sl _ 2 = .slice AL1_4 y1_4.length CL1_4 := hp 1 (by decide)
    have hv3 : sl _ 3 = .bool true := hp 2 (by decide)
    have hBw1007_w1007 := Below.refl w1007.heap.size w1007
    have hS := hS.cons hv2
    have hS := hS.cons hv3
    clear hp hI hv2 hv3
    refine hK1005 _ _ ?_
    (try clear hK1005 K1005)
    refine wp_ret ?_
    (try simp only [Exit.then, Exit.inBlock, Exit.jump, Exit.noGoto])
    exact bodyPost_ret (v := .tuple #[.slice AL1_4 y1_4.length CL1_4, .bool true]) (results_list (rs := [.tmp 2, .tmp 3]) rfl (by simp) (Vals.at (hS.get 1 rfl) (Vals.at (hS.get 0 rfl) .nil))) hS.nodef ⟨.slice AL1_4 y1_4.length CL1_4, rfl, Kd.R_lower (Kd.R_below hoL1_4 hBw1007_wL1) (Nat.le_refl _), hBw1007_w⟩
  rw [if_pos c3] at H
  by_cases c4 : x1_1_1.size ≤ 9223372036854775807
  rotate_left
  · rw [if_neg c4] at H
    exact absurd H (by simp)
  rw [if_pos c4] at H
  obtain ⟨t1007, At1007, H⟩ := Option.bind_eq_some_iff.mp H
  obtain ⟨t1007_1, t1007_2⟩ := t1007
  (try dsimp only at H)
  by_cases c5 : (y1_4.length + [t1007_1].length) * 8 ≤ 140737488355328
  rotate_left
  · rw [if_neg c5] at H
    exact absurd H (by simp)
  rw [if_pos c5] at H
  have hBwL1_wL1 := Below.refl wL1.heap.size wL1
  refine wp_seq_k (fun K1001 hK1001 => ?_)
  refine wp_seq_k (fun K1002 hK1002 => ?_)
  refine reg_seq (N := 36) (bs := [(1, .pointer (some ⟨gL1_1, 0, none⟩)), (4, .slice AL1_4 y1_4.length CL1_4), (5, .int .i64 x1_5)]) (I := fun x => Below w.heap.size w x ∧ Below wL1.heap.size wL1 x) (ps := [VI x1_5, VP gL1_1 1, IsV (.string x1_1_1), VI (x1_1_1.size : Int), VB (decide (x1_5 < (x1_1_1.size : Int)))]) (by kernel_rfl) ?_ ?_ rfl hS ⟨hBwL1_w, hBwL1_wL1⟩ ?_ ?_
  · exact fun x y hI hb => ⟨below_step hI.1 hb, below_step hI.2 hb⟩
  · exact .v (.v (.v (.v (.v (.nil)))))
  · refine .ms 2 rfl rfl rfl ?_
    refine .on rfl (fun a w hS hI hp => does_val (x_fieldE (b := 0) rfl (hS.get 0 rfl) Try.underlying26 rfl rfl (by kernel_rfl)) rfl) ?_
    refine .on rfl (fun a w hS hI hp => does_val (x_load1 (d := .string) rfl (hp.V 1 rfl rfl) (by kernel_rfl) rfl ((blk_cell (((hI.2).block gL1_1 (blk_lt hbxLgL1_1)).trans hbxLgL1_1) 1).trans rfl)) rfl) ?_
    refine .on rfl (fun a w hS hI hp => does_val (x_lenS rfl (by kernel_rfl) (hp.V 2 rfl rfl)) rfl) ?_
    refine .on rfl (fun a w hS hI hp => does_val (x_bin rfl (hp.V 0 rfl rfl) (hp.V 3 rfl rfl) (b_lss _ _ _ _ _ _)) rfl) ?_
    exact .nil
  clear hS
  intro at1003 w1004 hS hI hp
  have hBw1004_w := hI.1
  have hBw1004_wL1 := hI.2
  have hv20 : sl _ 20 = .bool (decide (x1_5 < (x1_1_1.size : Int))) := hp 4 (by decide)
  have hBw1004_w1004 := Below.refl w1004.heap.size w1004
  have hS := hS.cons hv20
  clear hp hI hv20
  refine hK1002 _ _ ?_
  (try clear hK1002 K1002)
  refine wp_cond_true ((hS.get 0 rfl).trans (bT (decide_eq_true c3))) ?_
  refine wp_skip ?_
  refine hK1001 _ _ ?_
  (try clear hK1001 K1001)
  refine wp_seq_k (fun K1005 hK1005 => ?_)
  refine wp_block ?_
  refine wp_seq_k (fun K1006 hK1006 => ?_)
  refine reg_seq (N := 36) (bs := [(20, .bool (decide (x1_5 < (x1_1_1.size : Int)))), (1, .pointer (some ⟨gL1_1, 0, none⟩)), (4, .slice AL1_4 y1_4.length CL1_4), (5, .int .i64 x1_5)]) (I := fun x => Below w.heap.size w x ∧ Below wL1.heap.size wL1 x ∧ Below w1004.heap.size w1004 x) (ps := [VP gL1_1 1, IsV (.string x1_1_1), IsC (Kd.int .u8) (bytesOf x1_1_1), VI x1_5, IsV (.tuple #[.int .u64 t1007_1, .bool t1007_2]), IsV (.tuple #[.int .u64 t1007_1, .bool t1007_2]), IsV (.int .u64 t1007_1), VB t1007_2, IsV (.int .u64 t1007_1), VB t1007_2]) (by kernel_rfl) ?_ ?_ rfl hS ⟨hBw1004_w, hBw1004_wL1, hBw1004_w1004⟩ ?_ ?_
  · exact fun x y hI hb => ⟨below_step hI.1 hb, below_step hI.2.1 hb, below_step hI.2.2 hb⟩
  · exact .v (.v (.cons (Stays.c _ _) (.v (.v (.v (.v (.v (.v (.v (.nil))))))))))
  · refine .on rfl (fun a w hS hI hp => does_val (x_fieldE (b := 0) rfl (hS.get 1 rfl) Try.underlying26 rfl rfl (by kernel_rfl)) rfl) ?_
    refine .on rfl (fun a w hS hI hp => does_val (x_load1 (d := .string) rfl (hp.V 0 rfl rfl) (by kernel_rfl) rfl ((blk_cell (((hI.2.1).block gL1_1 (blk_lt hbxLgL1_1)).trans hbxLgL1_1) 1).trans rfl)) rfl) ?_
    refine .on rfl (fun a w hS hI hp => does_bytes (e := 5) rfl (by kernel_rfl) (by kernel_rfl) (by kernel_rfl) (hp.V 1 rfl rfl) c4) ?_
    refine .ms 3 rfl rfl rfl ?_
    refine .on rfl (fun a w hS hI hp => (hp.V 2 rfl rfl).elim fun A_ h_ => h_.elim fun c_ h_ => h_.elim fun hv_ h_ => h_.elim fun hl_ hc_ => does_call (by kernel_rfl) (ar2 (hv_) (hp.V 3 rfl rfl)) ((octets_GetId.calls k _ _ (bytesOf x1_1_1) x1_5 t1007_1 t1007_2 _ hc_ hl_ At1007).mono fun _ _ h => ⟨_, h.1, h.2.below, rfl⟩)) ?_
    refine .mv 4 rfl rfl rfl rfl ?_
    iterate 2 refine .on rfl (fun a w hS hI hp => does_val (x_extract rfl (hp.V 5 rfl rfl) rfl) rfl) ?_
    refine .asg 6 rfl rfl rfl rfl ?_
    refine .asg 7 rfl rfl rfl rfl ?_
    exact .nil
  clear hS
  intro at1008 w1009 hS hI hp
  have hBw1009_w := hI.1
  have hBw1009_wL1 := hI.2.1
  have hBw1009_w1004 := hI.2.2
  replace hS := (((hS.nil).cons (hS.get 3 rfl)).cons (hS.get 2 rfl)).cons (hS.get 1 rfl)
  have hv6 : sl _ 6 = .int .u64 t1007_1 := hp 8 (by decide)
  have hBw1009_w1009 := Below.refl w1009.heap.size w1009
  have hS := hS.cons hv6
  clear hp hI hv6
  refine hK1006 _ _ ?_
  (try clear hK1006 K1006)
  refine reg_seq_tail 3 (N := 36) (bs := [(6, .int .u64 t1007_1), (1, .pointer (some ⟨gL1_1, 0, none⟩)), (4, .slice AL1_4 y1_4.length CL1_4), (5, .int .i64 x1_5)]) (I := fun x => Below w.heap.size w x ∧ Below wL1.heap.size wL1 x ∧ Below w1009.heap.size w1009 x) (ps := [IsV (.slice AL1_4 y1_4.length CL1_4), IsV (.int .u64 t1007_1), IsR (Kd.int .u64) 58 w1009.heap.size [t1007_1]]) (by kernel_rfl) ?_ ?_ rfl hS ⟨hBw1009_w, hBw1009_wL1, hBw1009_w1009⟩ ?_ ?_
  · exact fun x y hI hb => ⟨below_step hI.1 hb, below_step hI.2.1 hb, below_step hI.2.2 hb⟩
  · exact .v (.v (.cons (Stays.r _ _ _ _) (.nil)))
  · refine .ms 2 rfl rfl rfl ?_
    refine .ms 0 rfl rfl rfl ?_
    refine .on rfl (fun a w hS hI hp => does_lit w1009.heap.size 45 58 1 _ [(0, .int .u64 t1007_1)] [t1007_1] rfl (by kernel_rfl) (by rw [Array.toList_map]; exact (show [(0, a.eval (.tmp 32))] = _ from (li_cons (hp.V 1 rfl rfl) rfl))) (by kernel_rfl) rfl (hI.2.2).size (Nat.le_of_ble_eq_true rfl)) ?_
    exact .nil
  clear hS
  intro at1010 w1011 hS hI hp
  have hBw1011_w := hI.1
  have hBw1011_wL1 := hI.2.1
  have hBw1011_w1009 := hI.2.2
  replace hS := (((hS.nil).cons (hS.get 3 rfl)).cons (hS.get 2 rfl)).cons (hS.get 1 rfl)
  have hv31 : sl _ 31 = .slice AL1_4 y1_4.length CL1_4 := hp 0 (by decide)
  obtain ⟨A1012, C1012, hv33, hl1012, hc1012⟩ := Kd.R_reads (show Kd.R (Kd.int .u64) 58 w1011 w1009.heap.size (fun _ => True) (sl _ 33) [t1007_1] from hp 2 (by decide))
  have ho1012 : Kd.R (Kd.int .u64) 58 w1011 w1009.heap.size (fun _ => True) (.slice A1012 [t1007_1].length C1012) [t1007_1] := hv33 ▸ (hp 2 (by decide))
  have hBw1011_w1011 := Below.refl w1011.heap.size w1011
  have hS := hS.cons hv31
  have hS := hS.cons hv33
  clear hp hI hv31 hv33
  show wpList _ _ _ [_, _] _ _
  refine list_step rfl (does_more (W := w) (.tmp 31) (.tmp 33) 45 58 8 rfl (by kernel_rfl) (by kernel_rfl) (by decide) _ y1_4 [t1007_1] _ _ (hS.get 1 rfl) (hS.get 0 rfl) (Kd.R_below hoL1_4 hBw1011_wL1) (Kd.C_below hc1012 hBw1011_w1011) hBw1011_w c5) ?_
  rintro vw1013 w1013 ⟨hb, hr, hk⟩
  have hn1014 := hk gL1_1 _ _ ((hBw1011_wL1.block gL1_1 (blk_lt hbxLgL1_1)).trans hbxLgL1_1) (by decide)
  clear hk
  have hBw1013_w := hb
  replace hS := ((hS.nil).cons (hS.get 4 rfl)).cons (hS.get 2 rfl)
  have hBw1013_w1013 := Below.refl w1013.heap.size w1013
  obtain ⟨A1015, C1015, rfl, hl1015, hc1015⟩ := Kd.R_reads hr
  have hr1015 := hr
  clear hr
  refine hS.next (v := .slice A1015 ((y1_4 ++ [t1007_1] : List Int).length) C1015) (d := 34) rfl (by decide) (by rfl) ?_
  clear hS
  intro at1016 hS
  refine list_step rfl (R := fun v w' => Below _ _ w' ∧ (IsV (.slice A1015 ((y1_4 ++ [t1007_1] : List Int).length) C1015)) v w') (does_val (x_assign rfl (hS.get 0 rfl)) rfl) ?_
  rintro vw1017 w1017 ⟨hb, he⟩
  have hBw1017_w := below_step hBw1013_w hb
  have hBw1017_w1013 := below_step hBw1013_w1013 hb
  have hBw1017_w1017 := Below.refl w1017.heap.size w1017
  obtain rfl : vw1017 = .slice A1015 ((y1_4 ++ [t1007_1] : List Int).length) C1015 := he
  refine hS.next (v := .slice A1015 ((y1_4 ++ [t1007_1] : List Int).length) C1015) (d := 4) rfl (by decide) (by rfl) ?_
  clear hS
  intro at1018 hS
  refine wpList_nil ?_
  refine hK1005 _ _ ?_
  (try clear hK1005 K1005)
  refine reg_seq_tail 2 (N := 36) (bs := [(4, .slice A1015 ((y1_4 ++ [t1007_1] : List Int).length) C1015), (34, .slice A1015 ((y1_4 ++ [t1007_1] : List Int).length) C1015), (1, .pointer (some ⟨gL1_1, 0, none⟩)), (5, .int .i64 x1_5)]) (I := fun x => Below w.heap.size w x ∧ Below w1013.heap.size w1013 x ∧ Below w1017.heap.size w1017 x) (ps := [VI x1_5, VI (wrap64 (x1_5 + 8))]) (by kernel_rfl) ?_ ?_ rfl hS ⟨hBw1017_w, hBw1017_w1013, hBw1017_w1017⟩ ?_ ?_
  · exact fun x y hI hb => ⟨below_step hI.1 hb, below_step hI.2.1 hb, below_step hI.2.2 hb⟩
  · exact .v (.v (.nil))
  · refine .ms 3 rfl rfl rfl ?_
    refine .on rfl (fun a w hS hI hp => does_val (x_bin rfl (hp.V 0 rfl rfl) (rfl) (b_add _ _ _ _ _)) rfl) ?_
    exact .nil
  clear hS
  intro at1019 w1020 hS hI hp
  have hBw1020_w := hI.1
  have hBw1020_w1013 := hI.2.1
  have hBw1020_w1017 := hI.2.2
  replace hS := (((hS.nil).cons (hS.get 3 rfl)).cons (hS.get 2 rfl)).cons (hS.get 0 rfl)
  have hv22 : sl _ 22 = .int .i64 (wrap64 (x1_5 + 8)) := hp 1 (by decide)
  have hBw1020_w1020 := Below.refl w1020.heap.size w1020
  have hS := hS.cons hv22
  clear hp hI hv22
  show wpList _ _ _ [_] _ _
  refine list_step rfl (R := fun v w' => Below _ _ w' ∧ (VI (wrap64 (x1_5 + 8))) v w') (does_val (x_assign rfl (hS.get 0 rfl)) rfl) ?_
  rintro vw1021 w1021 ⟨hb, he⟩
  have hBw1021_w := below_step hBw1020_w hb
  have hBw1021_w1013 := below_step hBw1020_w1013 hb
  have hBw1021_w1020 := below_step hBw1020_w1020 hb
  have hBw1021_w1021 := Below.refl w1021.heap.size w1021
  obtain rfl : vw1021 = .int .i64 (wrap64 (x1_5 + 8)) := he
  replace hS := (((hS.nil).cons (hS.get 2 rfl)).cons (hS.get 1 rfl)).cons (hS.get 0 rfl)
  refine hS.next (v := .int .i64 (wrap64 (x1_5 + 8))) (d := 5) rfl (by decide) (by rfl) ?_
  clear hS
  intro at1022 hS
  refine wpList_nil ?_
  replace hS := (((hS.nil).cons (hS.get 0 rfl)).cons (hS.get 2 rfl)).cons (hS.get 3 rfl)
  (try simp only [Exit.then, Exit.inBlock])
  exact ⟨n1, Nat.lt_succ_self _, x1_1_0, x1_1_1, gL1_1, (y1_4 ++ [t1007_1] : List Int), A1015, C1015, wrap64 (x1_5 + 8), H, hS, hBw1021_w, hgeLgL1_1, ((hBw1021_w1013.block gL1_1 (blk_lt hn1014)).trans hn1014), hl1015, (Kd.R_lower (Kd.R_below hr1015 hBw1021_w1013) (Nat.le_refl _))⟩
/-! ### carillonref01_Id: function 48 -/
def carillonref01_Id.l0 : Nat → List Int → Int → Int → Int → Option (Int × Bool)
  | 0, _, _, _, _ => none
  | k + 1, x0, x1, x6, x7 => if x7 < 8 then (if 0 ≤ (wrap64 (x1 + x7)) then (if (wrap64 (x1 + x7)) < (x0.length : Int) then (carillonref01_Id.l0 k x0 x1 (IntKind.u64.wrap ((IntKind.u64.wrap (256 * x6)) + (IntKind.u64.wrap (rd x0 (wrap64 (x1 + x7)))))) (wrap64 (x7 + 1))) else (none)) else (none)) else (some (x6, true))
def carillonref01_Id.f (k : Nat) (l0 : List Int) (a1 : Int) : Option (Int × Bool) := (carillonref01_fits.f l0 a1 8).bind fun t214 => (if t214 = true then (carillonref01_Id.l0 k l0 a1 0 0) else (some (0, false)))
set_option maxHeartbeats 8000000 in
set_option maxRecDepth 100000 in
theorem carillonref01_Id.calls (k : Nat) (A0 : Option Addr) (c0 : Nat) (l0 : List Int) (a1 : Int) (r1 : Int) (r2 : Bool) (w : World) (hr0 : Kd.C (Kd.int .u8) w A0 l0.length l0) (hc0 : l0.length ≤ c0) (h : carillonref01_Id.f k l0 a1 = some (r1, r2)) :
    Calls Try.prog 48 #[.slice A0 l0.length c0, .int .i64 a1] w fun e w' => e = .returned (.tuple #[.int .u64 r1, .bool r2]) ∧ Drawn0 w w' := by
  have HR0 := Aside0.mk hr0
  have HC0 := Aside0.mk hc0
  clear hr0 hc0
  have H : ((carillonref01_fits.f l0 a1 8).bind fun t214 => (if t214 = true then (carillonref01_Id.l0 k l0 a1 0 0) else (some (0, false)))) = some (r1, r2) := h
  clear h
  replace H := Option.bind_eq_some_iff.mp H
  obtain ⟨t214, A30, H⟩ := H
  replace H : (if t214 = true then (carillonref01_Id.l0 k l0 a1 0 0) else (some (0, false))) = some (r1, r2) := H
  have A3 := Aside0.mk A30
  clear A30
  by_cases c4 : t214 = true
  · subst c4
    have H1 : (carillonref01_Id.l0 k l0 a1 0 0) = some (r1, r2) := by rw [if_pos rfl] at H; exact H
    clear H
    have H := H1
    clear H1
    have H' := Aside0.mk H
    clear H
    go_enter Try.func48, Try.ntmps48
    go_wp2_with (first | ((with_reducible refine gate_callee (f := 51) rfl ?_); refine goesL_ (some 10) rfl rfl Try.func51 (by kernel_rfl) rfl #[.slice A0 l0.length c0, .int .i64 a1, .int .i64 8] rfl (by (try simp only [List.map_toArray, List.map_cons, List.map_nil]); first | done | rfl | (simp only [List.length_drop, List.length_take]; rfl)) ?_; (with_reducible refine (carillonref01_fits.calls _ _ l0 a1 8 true _ ?side1 ?side2 A3.out).mono ?_); (case side1 => repeat (first | exact HR0.out | (with_reducible refine Kd.C_alloc ?_ _) | (with_reducible refine Kd.C_drewN ?_ _) | (with_reducible refine Kd.C_drew ?_))); (case side2 => exact HC0.out); rintro e w' ⟨rfl, ⟨nd, rfl⟩⟩; refine ⟨_, rfl, ?_⟩))
    go_loopg [6, 7] k (fun kq v6 v7 w' => ∃ (x6_1 : Int) (x7_1 : Int), v6 = .int .u64 x6_1 ∧ v7 = .int .i64 x7_1 ∧ Aside0 (carillonref01_Id.l0 kq l0 a1 x6_1 x7_1 = some (r1, r2)) ∧ Aside0 (kq ≤ k) ∧ Drawn0 w w')
    case atStart => exact ⟨(0), (0), (by first | rfl | (simp; done) | (simp [*]; done)), (by first | rfl | (simp; done) | (simp [*]; done)), H', ⟨Nat.le_refl _⟩, by repeat (first | exact Drawn0.refl _ | apply Drawn0.step)⟩
    case round =>
      clear H'
      try clear p2
      try clear c4
      obtain ⟨x6_1, x7_1, rfl, rfl, HA, HK1, ⟨m1, rfl⟩⟩ := hrel
      cases gk with
      | zero => exact absurd HA.out (by simp [carillonref01_Id.l0])
      | succ k1 =>
        have H := HA.out
        clear HA
        simp only [carillonref01_Id.l0] at H
        by_cases c5 : x7_1 < 8
        · rw [if_pos c5] at H
          have c5b0 : decide (x7_1 < 8) = true := decide_eq_true c5
          clear c5
          obtain ⟨ji6, hji6⟩ : ∃ j_ : Int, (wrap64 (a1 + x7_1)) = j_ := ⟨_, rfl⟩
          replace H : (if 0 ≤ (ji6) then (if (ji6) < (l0.length : Int) then (carillonref01_Id.l0 k1 l0 a1 (IntKind.u64.wrap ((IntKind.u64.wrap (256 * x6_1)) + (IntKind.u64.wrap (rd l0 (ji6))))) (wrap64 (x7_1 + 1))) else (none)) else (none)) = some (r1, r2) := by first | (rw [hji6] at H; exact H) | (simp only [hji6] at H ⊢; exact H)
          have hji6w : (IntKind.i64.wrap (a1 + x7_1)) = ji6 := (i64_w _).trans hji6
          by_cases c7 : 0 ≤ (ji6)
          · rw [if_pos c7] at H
            have c7b0 : decide (0 ≤ (ji6)) = true := decide_eq_true c7
            clear c7
            by_cases c8 : (ji6) < (l0.length : Int)
            · rw [if_pos c8] at H
              have c8b0 : decide ((ji6) < (l0.length : Int)) = true := decide_eq_true c8
              clear c8
              have H' := Aside0.mk H
              clear H
              have p215 : 0 ≤ ((ji6) : Int) := of_decide_eq_true (by first | (with_reducible assumption) | assumption)
              have q215 : (ji6) < (l0.length : Int) := of_decide_eq_true (by first | (with_reducible assumption) | assumption)
              obtain ⟨ad215, e215, hx215_0⟩ := Kd.at_int HR0.out (ji6) p215 q215
              cases e215
              replace p215 := eq_true p215
              replace q215 := eq_true q215
              go_wp2
              go_roundg k1
              case measure => have := HK1.out; omega
              case rel => exact ⟨(IntKind.u64.wrap ((IntKind.u64.wrap (256 * x6_1)) + (IntKind.u64.wrap (rd l0 (ji6))))), (wrap64 (x7_1 + 1)), (by first | rfl | (simp; done) | (simp only [← hji6] <;> (first | rfl | simp)) | (simp [*]; done)), (by first | rfl | (simp; done) | (simp [*]; done)), H', ⟨by have := HK1.out; omega⟩, by repeat (first | exact Drawn0.refl _ | apply Drawn0.step)⟩
            · rw [if_neg c8] at H
              exact absurd H (by simp)
          · rw [if_neg c7] at H
            exact absurd H (by simp)
        · rw [if_neg c5] at H
          have c5b0 : decide (x7_1 < 8) = false := decide_eq_false c5
          clear c5
          simp only [Option.some.injEq, Prod.mk.injEq] at H
          obtain ⟨rfl, rfl⟩ := H
          go_wp2
          go_ret2
          exact ⟨by first | rfl | (simp; done) | (simp [*]; done), by repeat (first | exact Drawn0.refl _ | apply Drawn0.step)⟩
  · replace c4 := Bool.eq_false_iff.mpr c4
    subst c4
    have H1 : (some (0, false)) = some (r1, r2) := by rw [if_neg (show ¬ (false = true) by decide)] at H; exact H
    clear H
    have H := H1
    clear H1
    simp only [Option.some.injEq, Prod.mk.injEq] at H
    obtain ⟨rfl, rfl⟩ := H
    go_enter Try.func48, Try.ntmps48
    go_wp2_with (first | ((with_reducible refine gate_callee (f := 51) rfl ?_); refine goesL_ (some 10) rfl rfl Try.func51 (by kernel_rfl) rfl #[.slice A0 l0.length c0, .int .i64 a1, .int .i64 8] rfl (by (try simp only [List.map_toArray, List.map_cons, List.map_nil]); first | done | rfl | (simp only [List.length_drop, List.length_take]; rfl)) ?_; (with_reducible refine (carillonref01_fits.calls _ _ l0 a1 8 false _ ?side1 ?side2 A3.out).mono ?_); (case side1 => repeat (first | exact HR0.out | (with_reducible refine Kd.C_alloc ?_ _) | (with_reducible refine Kd.C_drewN ?_ _) | (with_reducible refine Kd.C_drew ?_))); (case side2 => exact HC0.out); rintro e w' ⟨rfl, ⟨nd, rfl⟩⟩; refine ⟨_, rfl, ?_⟩))
    go_ret2
    exact ⟨by first | rfl | (simp; done) | (simp [*]; done), by repeat (first | exact Drawn0.refl _ | apply Drawn0.step)⟩
end Go.Proofs.Ytgmiokocipmbaaa.P
