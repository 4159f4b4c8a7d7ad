/- Functions and loops of the given program as Lean functions, and that the code comes to what they say: written by this session's own program; Lean checks it. -/
import Derived.Test.YtiomlbkakiienaaZzPx0
import Derived.Test.YtiomlbkakiienaaZzPx6
import Derived.Test.YtiomlbkakiienaaZzPx7
namespace Go.Proofs.Ytiomlbkakiienaa.P
open Go.RowKit Go.Proofs.YtiomlbkakiienaaW.PrintWords Go.Proofs.YtiomlbkakiienaaW.PrintLast Go.Proofs.YtiomlbkakiienaaW.PrintMore
attribute [local go_sem] max2_int min2_int max_two min_two max_three min_three max_four min_four   -- for this text's walks alone
set_option linter.unusedVariables false
set_option linter.unusedSimpArgs false
def carillonref01_PutId.f (k : Nat) (a0 : Int) : Option (List Int) := (carillonref01_Put.f k (wrap64 (a0)) 8).bind fun t164 => (some t164)
set_option maxHeartbeats 8000000 in
set_option maxRecDepth 100000 in
theorem carillonref01_PutId.calls (k : Nat) (a0 : Int) (r : List Int) (w : World) (h : carillonref01_PutId.f k a0 = some r) :
    Calls Try.prog 58 #[.int .u64 a0] w fun e w' => ∃ v0_ : Value, e = .returned (v0_) ∧ Kd.R (Kd.int .u8) 5 w' w.heap.size (fun _ => True) v0_ r ∧ Below w.heap.size w w' := by
  have HB := Aside0.mk (Below.refl w.heap.size w)
  have H : ((carillonref01_Put.f k (wrap64 (a0)) 8).bind fun t164 => (some t164)) = some r := h
  clear h
  replace H := Option.bind_eq_some_iff.mp H
  obtain ⟨t164, A20, H⟩ := H
  replace H : (some t164) = some r := H
  have A2 := Aside0.mk A20
  clear A20
  obtain rfl := Option.some.inj H
  go_enter Try.func58, Try.ntmps58
  go_wp2_with (first | ((with_reducible refine gate_callee (f := 47) rfl ?_); refine goesL_ (some 5) rfl rfl Try.func47 (by kernel_rfl) rfl #[.int .i64 (wrap64 (a0)), .int .i64 8] rfl (by (try simp only [List.map_toArray, List.map_cons, List.map_nil]); first | done | rfl | (simp only [List.length_drop, List.length_take]; rfl)) ?_; (with_reducible refine (carillonref01_Put.calls k (wrap64 (a0)) 8 t164 _ A2.out).mono ?_); rintro e w3 ⟨v165, rfl, ho0, hb⟩; refine ⟨_, rfl, ?_⟩; have n0_ := Aside0.mk (Kd.R_lower ho0 (below_size (by repeat (first | (with_reducible first | exact HB.out | apply below_alloc | apply pw_below_drewN | apply below_drew1) | exact HB.out)))); have n1_ := Aside0.mk (below_step (by repeat (first | (with_reducible first | exact HB.out | apply below_alloc | apply pw_below_drewN | apply below_drew1) | exact HB.out)) hb); clear HB; have HO166 := n0_; have HB := n1_; clear n0_ n1_; (try clear hb); (try clear hb2); (try clear hk); (try clear hi); (try clear ho0)))
  all_goals
    go_ret
    exact ⟨_, by first | rfl | (simp [errW_none, errW_some] <;> rfl) | (simp [*, errW_none, errW_some] <;> rfl), by (with_reducible repeat (first | apply Kd.R_alloc | apply Kd.R_drewN | apply Kd.R_drew)); exact HO166.out, by repeat (first | (with_reducible first | exact HB.out | apply below_alloc | apply pw_below_drewN | apply below_drew1) | exact HB.out)⟩
def carillonref04_Put.f (k : Nat) (a0_0 : Int) (a0_1 : Int) : Option (List Int) := (carillonref01_PutId.f k a0_0).bind fun t168 => ((carillonref01_Put.f k a0_1 2).bind fun t171 => (if t168.length + t171.length < 140737488355328 then (some (t168 ++ t171)) else (none)))
def carillonref04_Put.T1 : Bool × List (List Nat × List Nat) := (true, [([], []), ([0], [0]), ([1], [1]), ([], []), ([3], [3]), ([4, 2], [4]), ([2, 5, 5], [2, 5]), ([6, 6, 0, 1, 2, 3, 4, 5, 6], [6])])
def carillonref04_Put.B1 : List Nat := [0, 1, 3, 0, 8, 31, 63, 127]
theorem carillonref04_Put.tab1 : rtab .any (opsOf Try.f55 1) = carillonref04_Put.T1 := by kernel_rfl
theorem carillonref04_Put.bits1 : waitsOk carillonref04_Put.T1.2 carillonref04_Put.B1 = true := by kernel_rfl
set_option maxHeartbeats 8000000 in
set_option maxRecDepth 100000 in
theorem carillonref04_Put.calls (k : Nat) (a0_0 : Int) (a0_1 : Int) (r : List Int) (w : World) (h : carillonref04_Put.f k a0_0 a0_1 = some r) :
    Calls Try.prog 55 #[.agg #[.int .u64 a0_0, .int .i64 a0_1]] w fun e w' => ∃ v0_ : Value, e = .returned (v0_) ∧ Kd.R (Kd.int .u8) 5 w' w.heap.size (fun _ => True) v0_ r ∧ Below w.heap.size w w' := by
  have hu24 := Try.underlying24
  have HB := Aside0.mk (Below.refl w.heap.size w)
  have H : ((carillonref01_PutId.f k a0_0).bind fun t168 => ((carillonref01_Put.f k a0_1 2).bind fun t171 => (if t168.length + t171.length < 140737488355328 then (some (t168 ++ t171)) else (none)))) = some r := h
  clear h
  replace H := Option.bind_eq_some_iff.mp H
  obtain ⟨t168, A20, H⟩ := H
  replace H : ((carillonref01_Put.f k a0_1 2).bind fun t171 => (if t168.length + t171.length < 140737488355328 then (some (t168 ++ t171)) else (none))) = some r := H
  have A2 := Aside0.mk A20
  clear A20
  replace H := Option.bind_eq_some_iff.mp H
  obtain ⟨t171, A30, H⟩ := H
  replace H : (if t168.length + t171.length < 140737488355328 then (some (t168 ++ t171)) else (none)) = some r := H
  have A3 := Aside0.mk A30
  clear A30
  by_cases c4 : t168.length + t171.length < 140737488355328
  · rw [if_pos c4] at H
    have LMc4 := Aside0.mk c4
    clear c4
    obtain ⟨y174, hy174⟩ : ∃ y_ : List Int, y_ = (t168 ++ t171) := ⟨_, rfl⟩
    replace H : (some y174) = some r := by first | (rw [hy174]; with_reducible exact H) | (have H2_ := (Option.bind_some _ _).symm.trans H; rw [hy174]; with_reducible exact H2_) | (have H2_ := (Option.bind_some _ _).symm.trans H; with_reducible exact H2_) | with_reducible exact H | (rw [hy174]; exact H) | exact H
    have Ny174 := Aside0.mk hy174
    clear hy174
    obtain rfl := Option.some.inj H
    go_enter Try.func55, Try.ntmps55
    try go_wp2_with (first | ((with_reducible refine gate_dst (N := 1) rfl ?_); refine box_event ?hg (N := 1) ?hd (cs := #[.int .u64 a0_0, .int .i64 a0_1]) (t := 24) ?hr ?_; (case hd => rfl); (case hg => rfl); (case hr => first | (go_simp; done) | (go_simp; rfl)); intro gb167 hg w5 hbox hb; have n0_ := Aside0.mk (below_step (by repeat (first | (with_reducible first | exact HB.out | apply below_alloc | apply pw_below_drewN | apply below_drew1) | exact HB.out)) hb); have n1_ := Aside0.mk (hbox); have n2_ := Aside0.mk ((by rw [hg]; exact (below_size (by repeat (first | (with_reducible first | exact HB.out | apply below_alloc | apply pw_below_drewN | apply below_drew1) | exact HB.out))) : w.heap.size ≤ gb167)); have n3_ := Aside0.mk ((by rw [hg]; exact (below_size (by repeat (first | (with_reducible first | exact HB.out | apply below_alloc | apply pw_below_drewN | apply below_drew1) | exact HB.out))) : w.heap.size ≤ gb167)); clear HB; have HB := n0_; have BK167 := n1_; have GW167 := n2_; have GE167 := n3_; clear n0_ n1_ n2_ n3_; clear hb hbox hg))
    have n0_ := Aside0.mk (blk_drew BK167.out)
    have n1_ := Aside0.mk (below_drew1 HB.out)
    clear BK167
    clear HB
    have BK167 := n0_
    have HB := n1_
    clear n0_ n1_
    refine start_ (n := 8) (S := fun w' => w'.cell? ⟨gb167, 0, none⟩ = some (.int .u64 a0_0) ∧ w'.cell? ⟨gb167, 1, none⟩ = some (.int .i64 a0_1)) (ds := []) #[false, false, false, false, false, false, false, false] (by kernel_rfl) rfl rfl ⟨(blk_cell BK167.out 0).trans rfl, (blk_cell BK167.out 1).trans rfl⟩ (fun hHeld => ?_); refine with_tabW carillonref04_Put.tab1 carillonref04_Put.bits1 (fun HT_ HW_ => ?_)
    generalize w5.drew = w6 at BK167 HB hHeld ⊢
    refine pure_ (i := 0) (N := some 3) (v := ?_) (a' := ?_) #[true, false, false, false, false, false, false, false] rfl rfl (any_of HT_.out (by kernel_rfl)) (fun _ _ _ h => h) (Or.inl ⟨by rfl, ?_⟩) ?_ ?_
    rotate_left
    · intro w'
      go_simp
      with_reducible rfl
    rotate_left
    · simp only [Act.put, List.setIfInBounds_toArray, List.set_cons_zero, List.set_cons_succ, i64_w, i32_w]
      rfl
    refine pure_ (i := 3) (N := some 6) (v := ?_) (a' := ?_) #[true, false, false, true, false, false, false, false] rfl rfl (any_of HT_.out (by kernel_rfl)) (fun _ _ _ h => h) (Or.inl ⟨by rfl, ?_⟩) ?_ ?_
    rotate_left
    · intro w'
      go_simp
      with_reducible rfl
    rotate_left
    · simp only [Act.put, List.setIfInBounds_toArray, List.set_cons_zero, List.set_cons_succ, i64_w, i32_w]
      rfl
    refine take_ (i := 1) (N := some 4) (v := ?_) (a' := ?_) #[true, true, false, true, false, false, false, false] rfl rfl (take_ofW HT_.out HW_.out (by kernel_rfl)) (fun _ _ _ h => h) (Or.inl ⟨by rfl, ?_⟩) hHeld ?_ ?_
    rotate_left
    · rintro w' ⟨s0, s1⟩
      go_simp
      with_reducible rfl
    rotate_left
    · simp only [Act.put, List.setIfInBounds_toArray, List.set_cons_zero, List.set_cons_succ, i64_w, i32_w]
      rfl
    refine take_ (i := 4) (N := some 7) (v := ?_) (a' := ?_) #[true, true, false, true, true, false, false, false] rfl rfl (take_ofW HT_.out HW_.out (by kernel_rfl)) (fun _ _ _ h => h) (Or.inl ⟨by rfl, ?_⟩) hHeld ?_ ?_
    rotate_left
    · rintro w' ⟨s0, s1⟩
      go_simp
      with_reducible rfl
    rotate_left
    · simp only [Act.put, List.setIfInBounds_toArray, List.set_cons_zero, List.set_cons_succ, i64_w, i32_w]
      rfl
    refine one_ (i := 2) (N := some 5) #[true, true, true, true, true, false, false, false] rfl rfl (one_of HT_.out (by kernel_rfl)) (by decide) (fun K hK => ?_)
    refine goes_ Try.func58 (by kernel_rfl) rfl #[.int .u64 a0_0] (by rfl) rfl rfl (by (try simp only [List.map_toArray, List.map_cons, List.map_nil]); first | done | rfl | (simp only [List.length_drop, List.length_take]; rfl)) ?_
    with_reducible refine (carillonref01_PutId.calls k a0_0 t168 _ A2.out).mono ?_
    rintro e w7 ⟨v169, rfl, ho0, hb⟩
    refine ⟨_, rfl, ?_⟩
    have n0_ := Aside0.mk (Kd.R_lower ho0 (below_size (by repeat (first | (with_reducible first | exact HB.out | apply below_alloc | apply pw_below_drewN | apply below_drew1 | refine below_set ?_ GE167.out) | exact HB.out))))
    have n1_ := Aside0.mk (blk_below (g := gb167) (o := .cells #[.int .u64 a0_0, .int .i64 a0_1] 24 (0, 0)) (by (with_reducible repeat (first | refine blk_drewN ?_ _ | refine blk_drew ?_ | refine blk_alloc ?_ _)); exact BK167.out) hb)
    have n2_ := Aside0.mk (below_step (by repeat (first | (with_reducible first | exact HB.out | apply below_alloc | apply pw_below_drewN | apply below_drew1 | refine below_set ?_ GE167.out) | exact HB.out)) hb)
    clear BK167
    clear HB
    have HO170 := n0_
    have BK167 := n1_
    have HB := n2_
    clear n0_ n1_ n2_
    (try clear hb)
    (try clear hb2)
    (try clear hk)
    (try clear hi)
    (try clear ho0)
    refine hK.out _ _ ⟨(blk_cell BK167.out 0).trans rfl, (blk_cell BK167.out 1).trans rfl⟩ (fun hHeld => ?_)
    clear hK K
    refine norm_ (a' := ?_) ?_ ?_
    rotate_left
    · show Act.put _ (some 5) _ = _
      simp only [Act.put, List.setIfInBounds_toArray, List.set_cons_zero, List.set_cons_succ, i64_w, i32_w]
      rfl
    refine one_ (i := 5) (N := some 8) #[true, true, true, true, true, true, false, false] rfl rfl (one_of HT_.out (by kernel_rfl)) (by decide) (fun K hK => ?_)
    refine goes_ Try.func47 (by kernel_rfl) rfl #[.int .i64 a0_1, .int .i64 2] (by rfl) rfl rfl (by (try simp only [List.map_toArray, List.map_cons, List.map_nil]); first | done | rfl | (simp only [List.length_drop, List.length_take]; rfl)) ?_
    with_reducible refine (carillonref01_Put.calls k a0_1 2 t171 _ A3.out).mono ?_
    rintro e w8 ⟨v172, rfl, ho0, hb⟩
    refine ⟨_, rfl, ?_⟩
    have n0_ := Aside0.mk (Kd.R_elder' (by (with_reducible repeat (first | apply Kd.R_alloc | apply Kd.R_drewN | apply Kd.R_drew)); exact HO170.out) (Kd.R_base ho0) hb)
    have n1_ := Aside0.mk (Kd.R_lower (Kd.R_new' ho0 (Kd.R_lt (by (with_reducible repeat (first | apply Kd.R_alloc | apply Kd.R_drewN | apply Kd.R_drew)); exact HO170.out))) (below_size (by repeat (first | (with_reducible first | exact HB.out | apply below_alloc | apply pw_below_drewN | apply below_drew1 | refine below_set ?_ GE167.out) | exact HB.out))))
    have n2_ := Aside0.mk (blk_below (g := gb167) (o := .cells #[.int .u64 a0_0, .int .i64 a0_1] 24 (0, 0)) (by (with_reducible repeat (first | refine blk_drewN ?_ _ | refine blk_drew ?_ | refine blk_alloc ?_ _)); exact BK167.out) hb)
    have n3_ := Aside0.mk (below_step (by repeat (first | (with_reducible first | exact HB.out | apply below_alloc | apply pw_below_drewN | apply below_drew1 | refine below_set ?_ GE167.out) | exact HB.out)) hb)
    clear HO170
    clear BK167
    clear HB
    have HO170 := n0_
    have HO173 := n1_
    have BK167 := n2_
    have HB := n3_
    clear n0_ n1_ n2_ n3_
    (try clear hb)
    (try clear hb2)
    (try clear hk)
    (try clear hi)
    (try clear ho0)
    obtain ⟨Ao10, co10, eo10⟩ := Kd.R_slice HO173.out
    (first | subst eo10 | (injection eo10 with f1_ f2_ f3_; have f4_ := f1_.symm; have f5_ := f3_.symm; clear f1_ f2_ f3_; subst f4_; subst f5_))
    refine hK.out _ _ ⟨(blk_cell BK167.out 0).trans rfl, (blk_cell BK167.out 1).trans rfl⟩ (fun hHeld => ?_)
    clear hK K
    refine norm_ (a' := ?_) ?_ ?_
    rotate_left
    · show Act.put _ (some 8) _ = _
      simp only [Act.put, List.setIfInBounds_toArray, List.set_cons_zero, List.set_cons_succ, i64_w, i32_w]
      rfl
    refine one_ (i := 6) (N := some 9) #[true, true, true, true, true, true, true, false] rfl rfl (one_of HT_.out (by kernel_rfl)) (by decide) (fun K hK => ?_)
    refine Kd.R_append_rows_step (Kd.int .u8) (w0 := w) w.heap.size (by rfl) (.tmp 5) (.tmp 8) 36 5 (.int .u8 0) 1 rfl Try.underlying36 info5 rfl (by decide) (by omega) v169 t168 t171 _ _ _ (fun k_ => some k_ ≠ (.slice Ao10 t171.length co10 : Value).ownBlock) (fun _ => False) rfl rfl ?aO ?aR (fun _ _ h => h) (fun _ h => h.elim) ?aF ?aB ?aS ?aL ?_
    (case aR => repeat (first | exact (Kd.R_reads' HO173.out).2.2 | (with_reducible refine Kd.C_alloc ?_ _) | (with_reducible refine Kd.C_drewN ?_ _) | (with_reducible refine Kd.C_drew ?_)))
    (case aB => exact (by repeat (first | (with_reducible first | exact HB.out | apply below_alloc | apply pw_below_drewN | apply below_drew1 | refine below_set ?_ GE167.out) | exact HB.out)))
    (case aF => exact (fun k_ hk => Kd.fresh' (Kd.R_lt (by (with_reducible repeat (first | apply Kd.R_alloc | apply Kd.R_drewN | apply Kd.R_drew)); exact HO173.out)) k_ hk))
    (case aO => exact (by (with_reducible repeat (first | apply Kd.R_alloc | apply Kd.R_drewN | apply Kd.R_drew)); exact Kd.R_mono HO170.out (fun _ hk => hk.2)))
    (case aS => exact (below_size (by repeat (first | (with_reducible first | exact HB.out | apply below_alloc | apply pw_below_drewN | apply below_drew1 | refine below_set ?_ GE167.out) | exact HB.out))))
    (case aL => have := LMc4.out; omega)
    intro v175 w9 ho hb hg hat
    rw [← Ny174.out] at ho
    have n0_ := Aside0.mk (blk_grown (g := gb167) (o := .cells #[.int .u64 a0_0, .int .i64 a0_1] 24 (0, 0)) (by (with_reducible repeat (first | refine blk_drewN ?_ _ | refine blk_drew ?_ | refine blk_alloc ?_ _)); exact BK167.out) hg (Kd.R_ne HO170.out BK167.out (by decide)))
    have n1_ := Aside0.mk (Kd.R_after (ok := (fun _ => True)) (by (with_reducible repeat (first | apply Kd.R_alloc | apply Kd.R_drewN | apply Kd.R_drew)); exact HO173.out) hg hat)
    have n2_ := Aside0.mk (hb)
    have n3_ := Aside0.mk (ho)
    clear BK167
    clear HO173
    clear HB
    clear HO170
    have BK167 := n0_
    have HO173 := n1_
    have HB := n2_
    have HO176 := n3_
    clear n0_ n1_ n2_ n3_
    clear ho hb hg hat
    refine hK.out _ _ ⟨(blk_cell BK167.out 0).trans rfl, (blk_cell BK167.out 1).trans rfl⟩ (fun hHeld => ?_)
    clear hK K
    refine norm_ (a' := ?_) ?_ ?_
    rotate_left
    · show Act.put _ (some 9) _ = _
      simp only [Act.put, List.setIfInBounds_toArray, List.set_cons_zero, List.set_cons_succ, i64_w, i32_w]
      rfl
    refine pure_ (i := 7) (N := some 2) (v := ?_) (a' := ?_) #[true, true, true, true, true, true, true, true] rfl rfl (any_of HT_.out (by kernel_rfl)) (fun _ _ _ h => h) (Or.inl ⟨by rfl, ?_⟩) ?_ ?_
    rotate_left
    · intro w'
      go_simp
      with_reducible rfl
    rotate_left
    · simp only [Act.put, List.setIfInBounds_toArray, List.set_cons_zero, List.set_cons_succ, i64_w, i32_w]
      rfl
    refine done_ (done_of HT_.out (by kernel_rfl)) ?_
    try go_wp2
    all_goals
      go_ret
      exact ⟨_, by first | rfl | (simp [errW_none, errW_some] <;> rfl) | (simp [*, errW_none, errW_some] <;> rfl), by (with_reducible repeat (first | apply Kd.R_alloc | apply Kd.R_drewN | apply Kd.R_drew)); exact Kd.R_mono HO176.out (fun _ hk => trivial), by repeat (first | (with_reducible first | exact HB.out | apply below_alloc | apply pw_below_drewN | apply below_drew1 | refine below_set ?_ GE167.out) | exact HB.out)⟩
  · rw [if_neg c4] at H
    exact absurd H (by simp)
def carillonref06_Put.f (k : Nat) (a0_0 a0_1 a0_2 a0_3 a0_4 a0_5 a0_6 a0_7 a0_8 a0_9 a0_10 a0_11 a0_12 a0_13 a0_14 a0_15 a0_16 a0_17 a0_18 a0_19 a0_20 a0_21 a0_22 a1 : Int) : Option (List Int) := (carillonref06_Check.f a0_0 a0_1 a0_2 a0_3 a0_4 a0_5 a0_6 a0_7 a0_8 a0_9 a0_10 a0_11 a0_12 a0_13 a0_14 a0_15 a0_16 a0_17 a0_18 a0_19 a0_20 a0_21 a0_22).bind fun t7 => (if t7 = true then (if a1 < 34 then (some []) else (if a1 > 400 then (some []) else ((carillonref01_Put.f k a1 2).bind fun t15 => (if ([IntKind.u8.wrap a0_0, 18].length + t15.length) * 1 ≤ 140737488355328 then (if (([IntKind.u8.wrap a0_0, 18] ++ t15 : List Int).length + [IntKind.u8.wrap a0_1, 0].length) * 1 ≤ 140737488355328 then ((carillonref01_Put.f k a0_2 2).bind fun t34 => (if ((([IntKind.u8.wrap a0_0, 18] ++ t15 : List Int) ++ [IntKind.u8.wrap a0_1, 0] : List Int).length + t34.length) * 1 ≤ 140737488355328 then ((carillonref01_Put.f k a0_3 8).bind fun t44 => (if (((([IntKind.u8.wrap a0_0, 18] ++ t15 : List Int) ++ [IntKind.u8.wrap a0_1, 0] : List Int) ++ t34 : List Int).length + t44.length) * 1 ≤ 140737488355328 then (if ((((([IntKind.u8.wrap a0_0, 18] ++ t15 : List Int) ++ [IntKind.u8.wrap a0_1, 0] : List Int) ++ t34 : List Int) ++ t44 : List Int).length + [0, 0, 0, 0].length) * 1 ≤ 140737488355328 then ((carillonref04_Put.f k a0_4 a0_5).bind fun t63 => (if (((((([IntKind.u8.wrap a0_0, 18] ++ t15 : List Int) ++ [IntKind.u8.wrap a0_1, 0] : List Int) ++ t34 : List Int) ++ t44 : List Int) ++ [0, 0, 0, 0] : List Int).length + t63.length) * 1 ≤ 140737488355328 then ((carillonref01_Put.f k a0_6 2).bind fun t73 => (if ((((((([IntKind.u8.wrap a0_0, 18] ++ t15 : List Int) ++ [IntKind.u8.wrap a0_1, 0] : List Int) ++ t34 : List Int) ++ t44 : List Int) ++ [0, 0, 0, 0] : List Int) ++ t63 : List Int).length + t73.length) * 1 ≤ 140737488355328 then (if (((((((([IntKind.u8.wrap a0_0, 18] ++ t15 : List Int) ++ [IntKind.u8.wrap a0_1, 0] : List Int) ++ t34 : List Int) ++ t44 : List Int) ++ [0, 0, 0, 0] : List Int) ++ t63 : List Int) ++ t73 : List Int).length + [(if a0_0 = 0 then 0 else (if a0_0 = 1 then 1 else (if a0_0 = 8 then 2 else (if a0_0 = 9 then 3 else (if a0_0 = 13 then 4 else 5))))), IntKind.u8.wrap a0_7].length) * 1 ≤ 140737488355328 then (some (((((((([IntKind.u8.wrap a0_0, 18] ++ t15 : List Int) ++ [IntKind.u8.wrap a0_1, 0] : List Int) ++ t34 : List Int) ++ t44 : List Int) ++ [0, 0, 0, 0] : List Int) ++ t63 : List Int) ++ t73 : List Int) ++ [(if a0_0 = 0 then 0 else (if a0_0 = 1 then 1 else (if a0_0 = 8 then 2 else (if a0_0 = 9 then 3 else (if a0_0 = 13 then 4 else 5))))), IntKind.u8.wrap a0_7] : List Int)) else (none)) else (none))) else (none))) else (none)) else (none))) else (none))) else (none)) else (none))))) else (some []))
abbrev carillonref06_Put.v0 (x0 x1 x2 x3 x4 x5 x6 x7 x8 x9 x10 x11 x12 x13 x14 x15 x16 x17 x18 x19 x20 x21 x22 : Int) : Value := .agg #[.int .i64 x0, .int .i64 x1, .int .i64 x2, .int .i64 x3, .int .u64 x4, .int .i64 x5, .int .i64 x6, .int .i64 x7, .int .i64 x8, .int .u64 x9, .int .i64 x10, .int .i64 x11, .int .i64 x12, .int .i64 x13, .int .i64 x14, .int .i64 x15, .int .i64 x16, .int .u64 x17, .int .i64 x18, .int .i64 x19, .int .i64 x20, .int .i64 x21, .int .i64 x22]
abbrev carillonref06_Put.c1 (x0 x1 x2 x3 x4 x5 x6 x7 x8 x9 x10 x11 x12 x13 x14 x15 x16 x17 x18 x19 x20 x21 x22 : Int) : Array Value := #[.int .i64 x0, .int .i64 x1, .int .i64 x2, .int .i64 x3, .int .u64 x4, .int .i64 x5, .int .i64 x6, .int .i64 x7, .int .i64 x8, .int .u64 x9, .int .i64 x10, .int .i64 x11, .int .i64 x12, .int .i64 x13, .int .i64 x14, .int .i64 x15, .int .i64 x16, .int .u64 x17, .int .i64 x18, .int .i64 x19, .int .i64 x20, .int .i64 x21, .int .i64 x22]
open Go.Proofs.Ytiomlbkakiienaa.E in
set_option maxHeartbeats 60000000 in
set_option maxRecDepth 100000 in
theorem carillonref06_Put.calls (k : Nat) (aa ab aE aF ay az aG ak bw bx aI aJ aK aL aM aN aO aP aQ aR aS aT aU a1 : Int) (r : List Int) (w : World) (h : carillonref06_Put.f k aa ab aE aF ay az aG ak bw bx aI aJ aK aL aM aN aO aP aQ aR aS aT aU a1 = some r) :
    Calls Try.prog 26 #[.agg #[.int .i64 aa, .int .i64 ab, .int .i64 aE, .int .i64 aF, .int .u64 ay, .int .i64 az, .int .i64 aG, .int .i64 ak, .int .i64 bw, .int .u64 bx, .int .i64 aI, .int .i64 aJ, .int .i64 aK, .int .i64 aL, .int .i64 aM, .int .i64 aN, .int .i64 aO, .int .u64 aP, .int .i64 aQ, .int .i64 aR, .int .i64 aS, .int .i64 aT, .int .i64 aU], .int .i64 a1] w fun e w' => ∃ v0_ : Value, e = .returned v0_ ∧ Kd.R (Kd.int .u8) 5 w' w.heap.size (fun _ => True) v0_ r ∧ Below w.heap.size w w' := by
 have H := h
 clear h
 unfold carillonref06_Put.f at H
 obtain ⟨t7, dg, H⟩ := Option.bind_eq_some_iff.mp H
 refine calls_of_wp (fn := Try.f26) (by kernel_rfl) rfl ?_
 have hS := St.enter #[(carillonref06_Put.v0 aa ab aE aF ay az aG ak bw bx aI aJ aK aL aM aN aO aP aQ aR aS aT aU), .int .i64 a1] 74 (by simp) [(0, (carillonref06_Put.v0 aa ab aE aF ay az aG ak bw bx aI aJ aK aL aM aN aO aP aQ aR aS aT aU)), (1, .int .i64 a1)] (by simp)
 have fH := Below.refl w.heap.size w
 refine wp_seq_k (fun K1 fI => ?_)
 refine reg_seq (I := I1_ w) (ps := [IsB (carillonref06_Put.c1 aa ab aE aF ay az aG ak bw bx aI aJ aK aL aM aN aO aP aQ aR aS aT aU) 28 w.heap.size, IsV (.slice none 0 0)]) (by kernel_rfl) ?_ ?_ rfl hS fH ?_ ?_
 ·exact bs1
 ·exact .cons (Stays.b _ _ _) (.v (.nil))
 ·refine .on rfl (fun a w hS hI hp => does_var (x_box rfl (congrArg Value.cells (hS.get 0 rfl))) (hI).size) ?_
  refine .on rfl (fun a w hS hI hp => does_val (x_assign rfl (rfl)) rfl) ?_
  exact .nil
 clear hS
 intro ig w3 hS dx hp
 replace hS := (hS.nil).cons (hS.get 1 rfl)
 obtain ⟨g4, eD, gh, ad⟩ := (show IsB _ 28 _ (sl _ 2) _ from hp 0 (by decide))
 have hS := hS.cons eD
 clear hp eD
 refine fI _ _ ?_
 refine wp_seq_k (fun K5 fJ => ?_)
 by_cases c1 : t7 = true
 rotate_left
 ·rw [if_neg c1] at H
  obtain rfl := Option.some.inj H
  refine wp_seq_k (fun K6 cQ => ?_)
  refine reg_seq (I := I2_ w w3) (ps := [IsV ((carillonref06_Put.v0 aa ab aE aF ay az aG ak bw bx aI aJ aK aL aM aN aO aP aQ aR aS aT aU)), VB t7, VB (!t7), VB (!t7), VU, VU, VB true, VB true, VU, VU, VB true]) (by kernel_rfl) ?_ ?_ rfl hS ⟨dx, (bR w3)⟩ ?_ ?_
  ·exact bs2
  ·exact .v (.v (.v (.v (.v (.v (.v (.v (.v (.v (.v (.nil)))))))))))
  ·refine .on rfl (fun a w hS hI hp => does_loadrow rfl (hS.get 0 rfl) (((hI.2).block g4 (blk_lt ad)).trans ad) Try.underlying28 rfl (by kernel_rfl) rfl) ?_
   refine .on rfl (fun a w hS hI hp => does_call (by kernel_rfl) (ar1 (hp.V 0 rfl rfl)) ((carillonref06_Check.calls (w := _) (h := dg)).mono fun _ _ h => ⟨_, h.1, h.2, rfl⟩)) ?_
   refine .on rfl (fun a w hS hI hp => does_val (x_not rfl (hp.V 1 rfl rfl)) rfl) ?_
   refine .mv 2 rfl rfl rfl ?_
   iterate 2 refine .sn 3 10 rfl rfl ((congrArg (!·) (Bool.eq_false_iff.2 c1))) ?_
   refine .on rfl (fun a w hS hI hp => does_val (x_pickT rfl ((hp.V 3 rfl rfl).trans (bT (congrArg (!·) (Bool.eq_false_iff.2 c1)))) (rfl)) rfl) ?_
   refine .mv 6 rfl rfl rfl ?_
   iterate 2 refine .sn 7 14 rfl rfl rfl ?_
   refine .on rfl (fun a w hS hI hp => does_val (x_pickT rfl ((hp.V 7 rfl rfl).trans (bT rfl)) (rfl)) rfl) ?_
   exact .nil
  clear hS
  intro eA w9 hS al hp
  have aA : sl _ 17 = .bool true := hp 10 (by decide)
  have hS := hS.cons aA
  clear hp aA
  refine cQ _ _ ?_
  refine wp_cond_true ((hS.get 0 rfl).trans (bT rfl)) ?_
  refine wp_seq_k (fun di aH => ?_)
  refine reg_seq (I := I3_ w w3 w9) (ps := [IsV (.slice none 0 0)]) (by kernel_rfl) ?_ ?_ rfl hS ⟨al.1, al.2, (bR w9)⟩ ?_ ?_
  ·exact bs3
  ·exact .v (.nil)
  ·refine .on rfl (fun a w hS hI hp => does_val (x_assign rfl (rfl)) rfl) ?_
   exact .nil
  clear hS
  intro ca aD hS ax hp
  replace hS := hS.nil
  have bs : sl _ 4 = .slice none 0 0 := hp 0 (by decide)
  have hS := hS.cons bs
  clear hp bs
  refine aH _ _ ?_
  refine wp_ret ?_
  (try simp only [Exit.then, Exit.inBlock, Exit.jump, Exit.noGoto])
  exact bodyPost_ret (v := .slice none 0 0) (results_single rfl (Vals.at (hS.get 0 rfl) .nil)) hS.nodef ⟨.slice none 0 0, rfl, Kd.R_nil _ _ _ _ _, ax.1⟩
 rw [if_pos c1] at H
 refine wp_seq_k (fun K6 cQ => ?_)
 by_cases c2 : a1 < 34
 ·rw [if_pos c2] at H
  obtain rfl := Option.some.inj H
  refine reg_seq (I := I2_ w w3) (ps := [IsV ((carillonref06_Put.v0 aa ab aE aF ay az aG ak bw bx aI aJ aK aL aM aN aO aP aQ aR aS aT aU)), VB t7, VB (!t7), VB (!t7), VI a1, VB (decide (a1 < 34)), VB (decide (a1 < 34)), VB (decide (a1 < 34)), VU, VU, VB true]) (by kernel_rfl) ?_ ?_ rfl hS ⟨dx, (bR w3)⟩ ?_ ?_
  ·exact bs2
  ·exact .v (.v (.v (.v (.v (.v (.v (.v (.v (.v (.v (.nil)))))))))))
  ·refine .on rfl (fun a w hS hI hp => does_loadrow rfl (hS.get 0 rfl) (((hI.2).block g4 (blk_lt ad)).trans ad) Try.underlying28 rfl (by kernel_rfl) rfl) ?_
   refine .on rfl (fun a w hS hI hp => does_call (by kernel_rfl) (ar1 (hp.V 0 rfl rfl)) ((carillonref06_Check.calls (w := _) (h := dg)).mono fun _ _ h => ⟨_, h.1, h.2, rfl⟩)) ?_
   refine .on rfl (fun a w hS hI hp => does_val (x_not rfl (hp.V 1 rfl rfl)) rfl) ?_
   refine .mv 2 rfl rfl rfl ?_
   refine .oy 3 10 rfl rfl ((congrArg (!·) c1)) (fun a w hS hI hp => does_val (x_move rfl (hS.get 1 rfl)) rfl) ?_
   refine .oy 3 10 rfl rfl ((congrArg (!·) c1)) (fun a w hS hI hp => does_val (x_bin rfl (hp.V 4 rfl rfl) (rfl) (b_lss _ _ _ _ _ _)) rfl) ?_
   refine .on rfl (fun a w hS hI hp => does_val (x_pickF rfl ((hp.V 3 rfl rfl).trans (bF (congrArg (!·) c1))) (hp.V 5 rfl rfl)) rfl) ?_
   refine .mv 6 rfl rfl rfl ?_
   iterate 2 refine .sn 7 14 rfl rfl ((decide_eq_true c2)) ?_
   refine .on rfl (fun a w hS hI hp => does_val (x_pickT rfl ((hp.V 7 rfl rfl).trans (bT (decide_eq_true c2))) (rfl)) rfl) ?_
   exact .nil
  clear hS
  intro eA w9 hS al hp
  have aA : sl _ 17 = .bool true := hp 10 (by decide)
  have hS := hS.cons aA
  clear hp aA
  refine cQ _ _ ?_
  refine wp_cond_true ((hS.get 0 rfl).trans (bT rfl)) ?_
  refine wp_seq_k (fun di aH => ?_)
  refine reg_seq (I := I3_ w w3 w9) (ps := [IsV (.slice none 0 0)]) (by kernel_rfl) ?_ ?_ rfl hS ⟨al.1, al.2, (bR w9)⟩ ?_ ?_
  ·exact bs3
  ·exact .v (.nil)
  ·refine .on rfl (fun a w hS hI hp => does_val (x_assign rfl (rfl)) rfl) ?_
   exact .nil
  clear hS
  intro ca aD hS ax hp
  replace hS := hS.nil
  have bs : sl _ 4 = .slice none 0 0 := hp 0 (by decide)
  have hS := hS.cons bs
  clear hp bs
  refine aH _ _ ?_
  refine wp_ret ?_
  (try simp only [Exit.then, Exit.inBlock, Exit.jump, Exit.noGoto])
  exact bodyPost_ret (v := .slice none 0 0) (results_single rfl (Vals.at (hS.get 0 rfl) .nil)) hS.nodef ⟨.slice none 0 0, rfl, Kd.R_nil _ _ _ _ _, ax.1⟩
 rw [if_neg c2] at H
 refine reg_seq (I := I2_ w w3) (ps := [IsV ((carillonref06_Put.v0 aa ab aE aF ay az aG ak bw bx aI aJ aK aL aM aN aO aP aQ aR aS aT aU)), VB t7, VB (!t7), VB (!t7), VI a1, VB (decide (a1 < 34)), VB (decide (a1 < 34)), VB (decide (a1 < 34)), VI a1, VB (decide (a1 > 400)), VB (decide (a1 > 400))]) (by kernel_rfl) ?_ ?_ rfl hS ⟨dx, (bR w3)⟩ ?_ ?_
 ·exact bs2
 ·exact .v (.v (.v (.v (.v (.v (.v (.v (.v (.v (.v (.nil)))))))))))
 ·refine .on rfl (fun a w hS hI hp => does_loadrow rfl (hS.get 0 rfl) (((hI.2).block g4 (blk_lt ad)).trans ad) Try.underlying28 rfl (by kernel_rfl) rfl) ?_
  refine .on rfl (fun a w hS hI hp => does_call (by kernel_rfl) (ar1 (hp.V 0 rfl rfl)) ((carillonref06_Check.calls (w := _) (h := dg)).mono fun _ _ h => ⟨_, h.1, h.2, rfl⟩)) ?_
  refine .on rfl (fun a w hS hI hp => does_val (x_not rfl (hp.V 1 rfl rfl)) rfl) ?_
  refine .mv 2 rfl rfl rfl ?_
  refine .oy 3 10 rfl rfl ((congrArg (!·) c1)) (fun a w hS hI hp => does_val (x_move rfl (hS.get 1 rfl)) rfl) ?_
  refine .oy 3 10 rfl rfl ((congrArg (!·) c1)) (fun a w hS hI hp => does_val (x_bin rfl (hp.V 4 rfl rfl) (rfl) (b_lss _ _ _ _ _ _)) rfl) ?_
  refine .on rfl (fun a w hS hI hp => does_val (x_pickF rfl ((hp.V 3 rfl rfl).trans (bF (congrArg (!·) c1))) (hp.V 5 rfl rfl)) rfl) ?_
  refine .mv 6 rfl rfl rfl ?_
  refine .oy 7 14 rfl rfl ((decide_eq_false c2)) (fun a w hS hI hp => does_val (x_move rfl (hS.get 1 rfl)) rfl) ?_
  refine .oy 7 14 rfl rfl ((decide_eq_false c2)) (fun a w hS hI hp => does_val (x_bin rfl (hp.V 8 rfl rfl) (rfl) (b_gtr _ _ _ _ _ _)) rfl) ?_
  refine .on rfl (fun a w hS hI hp => does_val (x_pickF rfl ((hp.V 7 rfl rfl).trans (bF (decide_eq_false c2))) (hp.V 9 rfl rfl)) rfl) ?_
  exact .nil
 clear hS
 intro eA w9 hS al hp
 have aA : sl _ 17 = .bool (decide (a1 > 400)) := hp 10 (by decide)
 have hS := hS.cons aA
 clear hp aA
 refine cQ _ _ ?_
 by_cases c3 : a1 > 400
 ·rw [if_pos c3] at H
  obtain rfl := Option.some.inj H
  refine wp_cond_true ((hS.get 0 rfl).trans (bT (decide_eq_true c3))) ?_
  refine wp_seq_k (fun di aH => ?_)
  refine reg_seq (I := I3_ w w3 w9) (ps := [IsV (.slice none 0 0)]) (by kernel_rfl) ?_ ?_ rfl hS ⟨al.1, al.2, (bR w9)⟩ ?_ ?_
  ·exact bs3
  ·exact .v (.nil)
  ·refine .on rfl (fun a w hS hI hp => does_val (x_assign rfl (rfl)) rfl) ?_
   exact .nil
  clear hS
  intro ca aD hS ax hp
  replace hS := hS.nil
  have bs : sl _ 4 = .slice none 0 0 := hp 0 (by decide)
  have hS := hS.cons bs
  clear hp bs
  refine aH _ _ ?_
  refine wp_ret ?_
  (try simp only [Exit.then, Exit.inBlock, Exit.jump, Exit.noGoto])
  exact bodyPost_ret (v := .slice none 0 0) (results_single rfl (Vals.at (hS.get 0 rfl) .nil)) hS.nodef ⟨.slice none 0 0, rfl, Kd.R_nil _ _ _ _ _, ax.1⟩
 rw [if_neg c3] at H
 obtain ⟨ac, eO, H⟩ := Option.bind_eq_some_iff.mp H
 by_cases c4 : ([IntKind.u8.wrap aa, 18].length + ac.length) * 1 ≤ 140737488355328
 rotate_left
 ·rw [if_neg c4] at H
  exact absurd H (by simp)
 rw [if_pos c4] at H
 by_cases c5 : (([IntKind.u8.wrap aa, 18] ++ ac : List Int).length + [IntKind.u8.wrap ab, 0].length) * 1 ≤ 140737488355328
 rotate_left
 ·rw [if_neg c5] at H
  exact absurd H (by simp)
 rw [if_pos c5] at H
 obtain ⟨ae, eP, H⟩ := Option.bind_eq_some_iff.mp H
 by_cases c6 : ((([IntKind.u8.wrap aa, 18] ++ ac : List Int) ++ [IntKind.u8.wrap ab, 0] : List Int).length + ae.length) * 1 ≤ 140737488355328
 rotate_left
 ·rw [if_neg c6] at H
  exact absurd H (by simp)
 rw [if_pos c6] at H
 obtain ⟨af, eQ, H⟩ := Option.bind_eq_some_iff.mp H
 by_cases c7 : (((([IntKind.u8.wrap aa, 18] ++ ac : List Int) ++ [IntKind.u8.wrap ab, 0] : List Int) ++ ae : List Int).length + af.length) * 1 ≤ 140737488355328
 rotate_left
 ·rw [if_neg c7] at H
  exact absurd H (by simp)
 rw [if_pos c7] at H
 by_cases c8 : ((((([IntKind.u8.wrap aa, 18] ++ ac : List Int) ++ [IntKind.u8.wrap ab, 0] : List Int) ++ ae : List Int) ++ af : List Int).length + [0, 0, 0, 0].length) * 1 ≤ 140737488355328
 rotate_left
 ·rw [if_neg c8] at H
  exact absurd H (by simp)
 rw [if_pos c8] at H
 obtain ⟨aj, eR, H⟩ := Option.bind_eq_some_iff.mp H
 by_cases c9 : (((((([IntKind.u8.wrap aa, 18] ++ ac : List Int) ++ [IntKind.u8.wrap ab, 0] : List Int) ++ ae : List Int) ++ af : List Int) ++ [0, 0, 0, 0] : List Int).length + aj.length) * 1 ≤ 140737488355328
 rotate_left
 ·rw [if_neg c9] at H
  exact absurd H (by simp)
 rw [if_pos c9] at H
 obtain ⟨ao, eS, H⟩ := Option.bind_eq_some_iff.mp H
 by_cases dj : ((((((([IntKind.u8.wrap aa, 18] ++ ac : List Int) ++ [IntKind.u8.wrap ab, 0] : List Int) ++ ae : List Int) ++ af : List Int) ++ [0, 0, 0, 0] : List Int) ++ aj : List Int).length + ao.length) * 1 ≤ 140737488355328
 rotate_left
 ·rw [if_neg dj] at H
  exact absurd H (by simp)
 rw [if_pos dj] at H
 by_cases dk : (((((((([IntKind.u8.wrap aa, 18] ++ ac : List Int) ++ [IntKind.u8.wrap ab, 0] : List Int) ++ ae : List Int) ++ af : List Int) ++ [0, 0, 0, 0] : List Int) ++ aj : List Int) ++ ao : List Int).length + [(if aa = 0 then 0 else (if aa = 1 then 1 else (if aa = 8 then 2 else (if aa = 9 then 3 else (if aa = 13 then 4 else 5))))), IntKind.u8.wrap ak].length) * 1 ≤ 140737488355328
 rotate_left
 ·rw [if_neg dk] at H
  exact absurd H (by simp)
 rw [if_pos dk] at H
 obtain rfl := Option.some.inj H
 refine wp_cond_false ((hS.get 0 rfl).trans (bF (decide_eq_false c3))) ?_
 refine wp_skip ?_
 refine fJ _ _ ?_
 refine wp_seq_k (fun di aH => ?_)
 refine reg_seq (I := I3_ w w3 w9) (ps := [VP g4 0, VI aa, IsV (.int .u8 (IntKind.u8.wrap aa)), IsR (Kd.int .u8) 5 w9.heap.size [IntKind.u8.wrap aa, 18], IsR (Kd.int .u8) 5 w9.heap.size [IntKind.u8.wrap aa, 18]]) (by kernel_rfl) ?_ ?_ rfl hS ⟨al.1, al.2, (bR w9)⟩ ?_ ?_
 ·exact bs3
 ·exact .v (.v (.v (.cons (Stays.r _ _ _ _) (.cons (Stays.r _ _ _ _) (.nil)))))
 ·refine .on rfl (fun a w hS hI hp => does_val (x_fieldE (b := 0) rfl (hS.get 1 rfl) Try.underlying28 rfl rfl (by kernel_rfl)) rfl) ?_
  refine .on rfl (fun a w hS hI hp => does_val (x_load1 (d := .int .i64) rfl (hp.V 0 rfl rfl) (by kernel_rfl) rfl ((blk_cell (((hI.2.1).block g4 (blk_lt ad)).trans ad) 0).trans rfl)) rfl) ?_
  refine .on rfl (fun a w hS hI hp => does_val (x_convI rfl (by kernel_rfl) (by kernel_rfl) (hp.V 1 rfl rfl)) rfl) ?_
  refine .on rfl (fun a w hS hI hp => does_lit w9.heap.size 36 5 2 _ [(0, .int .u8 (IntKind.u8.wrap aa)), (1, .int .u8 18)] [IntKind.u8.wrap aa, 18] rfl (by kernel_rfl) (by rw [Array.toList_map]; exact (show [(0, a.eval (.tmp 20)), (1, a.eval (.const (.int .u8 18)))] = _ from (li_cons (hp.V 2 rfl rfl) (li_cons (rfl) rfl)))) (by kernel_rfl) rfl (hI.2.2).size (Nat.le_of_ble_eq_true rfl)) ?_
  refine .on rfl (fun a w hS hI hp => does_val (x_assign rfl rfl) (hp.V 3 rfl rfl)) ?_
  exact .nil
 clear hS
 intro ca aD hS ax hp
 replace hS := ((hS.nil).cons (hS.get 2 rfl)).cons (hS.get 1 rfl)
 obtain ⟨df, dh, ds, ho, hf⟩ := Kd.R_reads (show Kd.R (Kd.int .u8) 5 aD w9.heap.size (fun _ => True) (sl _ 5) [IntKind.u8.wrap aa, 18] from hp 4 (by decide))
 have fc : Kd.R (Kd.int .u8) 5 aD w9.heap.size (fun _ => True) (.slice df [IntKind.u8.wrap aa, 18].length dh) [IntKind.u8.wrap aa, 18] := ds ▸ (hp 4 (by decide))
 have hS := hS.cons ds
 clear hp ds
 refine aH _ _ ?_
 refine wp_seq_k (fun h3 eU => ?_)
 refine reg_seq_tail 3 (I := I4_ w w3 w9 aD) (ps := [IsV (.slice df ([IntKind.u8.wrap aa, 18].length) dh), VI a1, IsR (Kd.int .u8) 5 aD.heap.size ac]) (by kernel_rfl) ?_ ?_ rfl hS ⟨ax.1, ax.2.1, ax.2.2, (bR aD)⟩ ?_ ?_
 ·exact bs4
 ·exact .v (.v (.cons (Stays.r _ _ _ _) (.nil)))
 ·refine .ms 0 rfl rfl rfl ?_
  refine .ms 2 rfl rfl rfl ?_
  refine .on rfl (fun a w hS hI hp => does_call (by kernel_rfl) (ar2 (hp.V 1 rfl rfl) (rfl)) ((carillonref01_Put.calls k a1 2 ac _  eO).mono fun _ _ h => h.elim fun v0 h => ⟨v0, h.1, h.2.2, Kd.R_lower h.2.1 hI.2.2.2.size⟩)) ?_
  exact .nil
 clear hS
 intro gL dM hS dv hp
 replace hS := ((hS.nil).cons (hS.get 1 rfl)).cons (hS.get 0 rfl)
 have dl : sl _ 22 = .slice df ([IntKind.u8.wrap aa, 18].length) dh := hp 0 (by decide)
 obtain ⟨ft, fA, cH, hq, e5⟩ := Kd.R_reads (show Kd.R (Kd.int .u8) 5 dM aD.heap.size (fun _ => True) (sl _ 24) ac from hp 2 (by decide))
 have hG : Kd.R (Kd.int .u8) 5 dM aD.heap.size (fun _ => True) (.slice ft ac.length fA) ac := cH ▸ (hp 2 (by decide))
 have hS := hS.cons dl
 have hS := hS.cons cH
 clear hp dl cH
 show wpList _ _ _ [_, _] _ _
 refine list_step rfl (does_more (W := w9) (.tmp 22) (.tmp 24) 36 5 1 rfl (by kernel_rfl) (by kernel_rfl) (by decide) _ [IntKind.u8.wrap aa, 18] ac _ _ (hS.get 1 rfl) (hS.get 0 rfl) (Kd.R_below fc dv.2.2.2) (Kd.C_below e5 (bR dM)) dv.2.2.1 c4) ?_
 rintro hO eE ⟨hb, hr, hk⟩
 clear hk
 have cS := below_step al.1 hb
 have cb := below_step al.2 hb
 have cc := hb
 replace hS := (hS.nil).cons (hS.get 3 rfl)
 obtain ⟨bD, bK, rfl, hs, hg⟩ := Kd.R_reads hr
 have fd := hr
 clear hr
 refine hS.next (v := .slice bD (([IntKind.u8.wrap aa, 18] ++ ac : List Int).length) bK) (d := 25) rfl (by decide) (by rfl) ?_
 clear hS
 intro gM hS
 refine list_step rfl (R := fun v w' => Below _ _ w' ∧ (IsV (.slice bD (([IntKind.u8.wrap aa, 18] ++ ac : List Int).length) bK)) v w') (does_val (x_assign rfl (hS.get 0 rfl)) rfl) ?_
 rintro fk bQ ⟨hb, he⟩
 have cT := below_step cS hb
 have cd := below_step cb hb
 have ce := below_step cc hb
 have bV := below_step (bR eE) hb
 obtain rfl : fk = .slice bD (([IntKind.u8.wrap aa, 18] ++ ac : List Int).length) bK := he
 refine hS.next (v := .slice bD (([IntKind.u8.wrap aa, 18] ++ ac : List Int).length) bK) (d := 5) rfl (by decide) (by rfl) ?_
 clear hS
 intro gN hS
 refine wpList_nil ?_
 refine eU _ _ ?_
 refine wp_seq_k (fun h4 eV => ?_)
 refine reg_seq_tail 5 (I := I5_ w w3 w9 eE bQ) (ps := [IsV (.slice bD (([IntKind.u8.wrap aa, 18] ++ ac : List Int).length) bK), VP g4 1, VI ab, IsV (.int .u8 (IntKind.u8.wrap ab)), IsR (Kd.int .u8) 5 bQ.heap.size [IntKind.u8.wrap ab, 0]]) (by kernel_rfl) ?_ ?_ rfl hS ⟨cT, cd, ce, bV, (bR bQ)⟩ ?_ ?_
 ·exact bs5
 ·exact .v (.v (.v (.v (.cons (Stays.r _ _ _ _) (.nil)))))
 ·refine .ms 0 rfl rfl rfl ?_
  refine .on rfl (fun a w hS hI hp => does_val (x_fieldE (b := 0) rfl (hS.get 2 rfl) Try.underlying28 rfl rfl (by kernel_rfl)) rfl) ?_
  refine .on rfl (fun a w hS hI hp => does_val (x_load1 (d := .int .i64) rfl (hp.V 1 rfl rfl) (by kernel_rfl) rfl ((blk_cell (((hI.2.1).block g4 (blk_lt ad)).trans ad) 1).trans rfl)) rfl) ?_
  refine .on rfl (fun a w hS hI hp => does_val (x_convI rfl (by kernel_rfl) (by kernel_rfl) (hp.V 2 rfl rfl)) rfl) ?_
  refine .on rfl (fun a w hS hI hp => does_lit bQ.heap.size 36 5 2 _ [(0, .int .u8 (IntKind.u8.wrap ab)), (1, .int .u8 0)] [IntKind.u8.wrap ab, 0] rfl (by kernel_rfl) (by rw [Array.toList_map]; exact (show [(0, a.eval (.tmp 29)), (1, a.eval (.const (.int .u8 0)))] = _ from (li_cons (hp.V 3 rfl rfl) (li_cons (rfl) rfl)))) (by kernel_rfl) rfl (hI.2.2.2.2).size (Nat.le_of_ble_eq_true rfl)) ?_
  exact .nil
 clear hS
 intro gO d1 hS dw hp
 replace hS := ((hS.nil).cons (hS.get 2 rfl)).cons (hS.get 0 rfl)
 have dm : sl _ 26 = .slice bD (([IntKind.u8.wrap aa, 18] ++ ac : List Int).length) bK := hp 0 (by decide)
 obtain ⟨fu, fB, cI, ht, e6⟩ := Kd.R_reads (show Kd.R (Kd.int .u8) 5 d1 bQ.heap.size (fun _ => True) (sl _ 30) [IntKind.u8.wrap ab, 0] from hp 4 (by decide))
 have hH : Kd.R (Kd.int .u8) 5 d1 bQ.heap.size (fun _ => True) (.slice fu [IntKind.u8.wrap ab, 0].length fB) [IntKind.u8.wrap ab, 0] := cI ▸ (hp 4 (by decide))
 have hS := hS.cons dm
 have hS := hS.cons cI
 clear hp dm cI
 show wpList _ _ _ [_, _] _ _
 refine list_step rfl (does_more (W := w9) (.tmp 26) (.tmp 30) 36 5 1 rfl (by kernel_rfl) (by kernel_rfl) (by decide) _ ([IntKind.u8.wrap aa, 18] ++ ac : List Int) [IntKind.u8.wrap ab, 0] _ _ (hS.get 1 rfl) (hS.get 0 rfl) (Kd.R_below fd dw.2.2.2.1) (Kd.C_below e6 (bR d1)) dw.2.2.1 c5) ?_
 rintro hP eF ⟨hb, hr, hk⟩
 clear hk
 have cU := below_step al.1 hb
 have ci := below_step al.2 hb
 have cj := hb
 replace hS := (hS.nil).cons (hS.get 3 rfl)
 obtain ⟨bE, bL, rfl, hu, hh⟩ := Kd.R_reads hr
 have fe := hr
 clear hr
 refine hS.next (v := .slice bE ((([IntKind.u8.wrap aa, 18] ++ ac : List Int) ++ [IntKind.u8.wrap ab, 0] : List Int).length) bL) (d := 31) rfl (by decide) (by rfl) ?_
 clear hS
 intro gP hS
 refine list_step rfl (R := fun v w' => Below _ _ w' ∧ (IsV (.slice bE ((([IntKind.u8.wrap aa, 18] ++ ac : List Int) ++ [IntKind.u8.wrap ab, 0] : List Int).length) bL)) v w') (does_val (x_assign rfl (hS.get 0 rfl)) rfl) ?_
 rintro fl b6 ⟨hb, he⟩
 have cV := below_step cU hb
 have ck := below_step ci hb
 have cl := below_step cj hb
 have b0 := below_step (bR eF) hb
 obtain rfl : fl = .slice bE ((([IntKind.u8.wrap aa, 18] ++ ac : List Int) ++ [IntKind.u8.wrap ab, 0] : List Int).length) bL := he
 refine hS.next (v := .slice bE ((([IntKind.u8.wrap aa, 18] ++ ac : List Int) ++ [IntKind.u8.wrap ab, 0] : List Int).length) bL) (d := 5) rfl (by decide) (by rfl) ?_
 clear hS
 intro gQ hS
 refine wpList_nil ?_
 refine eV _ _ ?_
 refine wp_seq_k (fun h5 eW => ?_)
 refine reg_seq_tail 4 (I := I5_ w w3 w9 eF b6) (ps := [IsV (.slice bE ((([IntKind.u8.wrap aa, 18] ++ ac : List Int) ++ [IntKind.u8.wrap ab, 0] : List Int).length) bL), VP g4 2, VI aE, IsR (Kd.int .u8) 5 b6.heap.size ae]) (by kernel_rfl) ?_ ?_ rfl hS ⟨cV, ck, cl, b0, (bR b6)⟩ ?_ ?_
 ·exact bs5
 ·exact .v (.v (.v (.cons (Stays.r _ _ _ _) (.nil))))
 ·refine .ms 0 rfl rfl rfl ?_
  refine .on rfl (fun a w hS hI hp => does_val (x_fieldE (b := 0) rfl (hS.get 2 rfl) Try.underlying28 rfl rfl (by kernel_rfl)) rfl) ?_
  refine .on rfl (fun a w hS hI hp => does_val (x_load1 (d := .int .i64) rfl (hp.V 1 rfl rfl) (by kernel_rfl) rfl ((blk_cell (((hI.2.1).block g4 (blk_lt ad)).trans ad) 2).trans rfl)) rfl) ?_
  refine .on rfl (fun a w hS hI hp => does_call (by kernel_rfl) (ar2 (hp.V 2 rfl rfl) (rfl)) ((carillonref01_Put.calls k aE 2 ae _  eP).mono fun _ _ h => h.elim fun v0 h => ⟨v0, h.1, h.2.2, Kd.R_lower h.2.1 hI.2.2.2.2.size⟩)) ?_
  exact .nil
 clear hS
 intro gR d2 hS dy hp
 replace hS := ((hS.nil).cons (hS.get 2 rfl)).cons (hS.get 0 rfl)
 have dn : sl _ 32 = .slice bE ((([IntKind.u8.wrap aa, 18] ++ ac : List Int) ++ [IntKind.u8.wrap ab, 0] : List Int).length) bL := hp 0 (by decide)
 obtain ⟨fv, fC, cJ, hw, e7⟩ := Kd.R_reads (show Kd.R (Kd.int .u8) 5 d2 b6.heap.size (fun _ => True) (sl _ 35) ae from hp 3 (by decide))
 have hJ : Kd.R (Kd.int .u8) 5 d2 b6.heap.size (fun _ => True) (.slice fv ae.length fC) ae := cJ ▸ (hp 3 (by decide))
 have hS := hS.cons dn
 have hS := hS.cons cJ
 clear hp dn cJ
 show wpList _ _ _ [_, _] _ _
 refine list_step rfl (does_more (W := w9) (.tmp 32) (.tmp 35) 36 5 1 rfl (by kernel_rfl) (by kernel_rfl) (by decide) _ (([IntKind.u8.wrap aa, 18] ++ ac : List Int) ++ [IntKind.u8.wrap ab, 0] : List Int) ae _ _ (hS.get 1 rfl) (hS.get 0 rfl) (Kd.R_below fe dy.2.2.2.1) (Kd.C_below e7 (bR d2)) dy.2.2.1 c6) ?_
 rintro hQ eG ⟨hb, hr, hk⟩
 clear hk
 have cW := below_step al.1 hb
 have cm := below_step al.2 hb
 have cn := hb
 replace hS := (hS.nil).cons (hS.get 3 rfl)
 obtain ⟨bG, bM, rfl, hx, hi⟩ := Kd.R_reads hr
 have ff := hr
 clear hr
 refine hS.next (v := .slice bG (((([IntKind.u8.wrap aa, 18] ++ ac : List Int) ++ [IntKind.u8.wrap ab, 0] : List Int) ++ ae : List Int).length) bM) (d := 36) rfl (by decide) (by rfl) ?_
 clear hS
 intro gS hS
 refine list_step rfl (R := fun v w' => Below _ _ w' ∧ (IsV (.slice bG (((([IntKind.u8.wrap aa, 18] ++ ac : List Int) ++ [IntKind.u8.wrap ab, 0] : List Int) ++ ae : List Int).length) bM)) v w') (does_val (x_assign rfl (hS.get 0 rfl)) rfl) ?_
 rintro fm b7 ⟨hb, he⟩
 have cX := below_step cW hb
 have co := below_step cm hb
 have cp := below_step cn hb
 have b1 := below_step (bR eG) hb
 obtain rfl : fm = .slice bG (((([IntKind.u8.wrap aa, 18] ++ ac : List Int) ++ [IntKind.u8.wrap ab, 0] : List Int) ++ ae : List Int).length) bM := he
 refine hS.next (v := .slice bG (((([IntKind.u8.wrap aa, 18] ++ ac : List Int) ++ [IntKind.u8.wrap ab, 0] : List Int) ++ ae : List Int).length) bM) (d := 5) rfl (by decide) (by rfl) ?_
 clear hS
 intro gT hS
 refine wpList_nil ?_
 refine eW _ _ ?_
 refine wp_seq_k (fun h6 eX => ?_)
 refine reg_seq_tail 4 (I := I5_ w w3 w9 eG b7) (ps := [IsV (.slice bG (((([IntKind.u8.wrap aa, 18] ++ ac : List Int) ++ [IntKind.u8.wrap ab, 0] : List Int) ++ ae : List Int).length) bM), VP g4 3, VI aF, IsR (Kd.int .u8) 5 b7.heap.size af]) (by kernel_rfl) ?_ ?_ rfl hS ⟨cX, co, cp, b1, (bR b7)⟩ ?_ ?_
 ·exact bs5
 ·exact .v (.v (.v (.cons (Stays.r _ _ _ _) (.nil))))
 ·refine .ms 0 rfl rfl rfl ?_
  refine .on rfl (fun a w hS hI hp => does_val (x_fieldE (b := 0) rfl (hS.get 2 rfl) Try.underlying28 rfl rfl (by kernel_rfl)) rfl) ?_
  refine .on rfl (fun a w hS hI hp => does_val (x_load1 (d := .int .i64) rfl (hp.V 1 rfl rfl) (by kernel_rfl) rfl ((blk_cell (((hI.2.1).block g4 (blk_lt ad)).trans ad) 3).trans rfl)) rfl) ?_
  refine .on rfl (fun a w hS hI hp => does_call (by kernel_rfl) (ar2 (hp.V 2 rfl rfl) (rfl)) ((carillonref01_Put.calls k aF 8 af _  eQ).mono fun _ _ h => h.elim fun v0 h => ⟨v0, h.1, h.2.2, Kd.R_lower h.2.1 hI.2.2.2.2.size⟩)) ?_
  exact .nil
 clear hS
 intro gU d3 hS dz hp
 replace hS := ((hS.nil).cons (hS.get 2 rfl)).cons (hS.get 0 rfl)
 have dp : sl _ 37 = .slice bG (((([IntKind.u8.wrap aa, 18] ++ ac : List Int) ++ [IntKind.u8.wrap ab, 0] : List Int) ++ ae : List Int).length) bM := hp 0 (by decide)
 obtain ⟨fw, fD, cK, hy, e8⟩ := Kd.R_reads (show Kd.R (Kd.int .u8) 5 d3 b7.heap.size (fun _ => True) (sl _ 40) af from hp 3 (by decide))
 have hK : Kd.R (Kd.int .u8) 5 d3 b7.heap.size (fun _ => True) (.slice fw af.length fD) af := cK ▸ (hp 3 (by decide))
 have hS := hS.cons dp
 have hS := hS.cons cK
 clear hp dp cK
 show wpList _ _ _ [_, _] _ _
 refine list_step rfl (does_more (W := w9) (.tmp 37) (.tmp 40) 36 5 1 rfl (by kernel_rfl) (by kernel_rfl) (by decide) _ ((([IntKind.u8.wrap aa, 18] ++ ac : List Int) ++ [IntKind.u8.wrap ab, 0] : List Int) ++ ae : List Int) af _ _ (hS.get 1 rfl) (hS.get 0 rfl) (Kd.R_below ff dz.2.2.2.1) (Kd.C_below e8 (bR d3)) dz.2.2.1 c7) ?_
 rintro hR eH ⟨hb, hr, hk⟩
 clear hk
 have cY := below_step al.1 hb
 have cq := below_step al.2 hb
 have cr := hb
 replace hS := (hS.nil).cons (hS.get 3 rfl)
 obtain ⟨bH, bN, rfl, hz, hj⟩ := Kd.R_reads hr
 have fg := hr
 clear hr
 refine hS.next (v := .slice bH ((((([IntKind.u8.wrap aa, 18] ++ ac : List Int) ++ [IntKind.u8.wrap ab, 0] : List Int) ++ ae : List Int) ++ af : List Int).length) bN) (d := 41) rfl (by decide) (by rfl) ?_
 clear hS
 intro gV hS
 refine list_step rfl (R := fun v w' => Below _ _ w' ∧ (IsV (.slice bH ((((([IntKind.u8.wrap aa, 18] ++ ac : List Int) ++ [IntKind.u8.wrap ab, 0] : List Int) ++ ae : List Int) ++ af : List Int).length) bN)) v w') (does_val (x_assign rfl (hS.get 0 rfl)) rfl) ?_
 rintro fo bS ⟨hb, he⟩
 have cZ := below_step cY hb
 have ct := below_step cq hb
 have cu := below_step cr hb
 have b2 := below_step (bR eH) hb
 obtain rfl : fo = .slice bH ((((([IntKind.u8.wrap aa, 18] ++ ac : List Int) ++ [IntKind.u8.wrap ab, 0] : List Int) ++ ae : List Int) ++ af : List Int).length) bN := he
 refine hS.next (v := .slice bH ((((([IntKind.u8.wrap aa, 18] ++ ac : List Int) ++ [IntKind.u8.wrap ab, 0] : List Int) ++ ae : List Int) ++ af : List Int).length) bN) (d := 5) rfl (by decide) (by rfl) ?_
 clear hS
 intro gW hS
 refine wpList_nil ?_
 refine eX _ _ ?_
 refine wp_seq_k (fun h7 eY => ?_)
 refine reg_seq_tail 2 (I := I5_ w w3 w9 eH bS) (ps := [IsV (.slice bH ((((([IntKind.u8.wrap aa, 18] ++ ac : List Int) ++ [IntKind.u8.wrap ab, 0] : List Int) ++ ae : List Int) ++ af : List Int).length) bN), IsR (Kd.int .u8) 5 bS.heap.size [0, 0, 0, 0]]) (by kernel_rfl) ?_ ?_ rfl hS ⟨cZ, ct, cu, b2, (bR bS)⟩ ?_ ?_
 ·exact bs5
 ·exact .v (.cons (Stays.r _ _ _ _) (.nil))
 ·refine .ms 0 rfl rfl rfl ?_
  refine .on rfl (fun a w hS hI hp => does_lit bS.heap.size 36 5 4 _ [(0, .int .u8 0), (1, .int .u8 0), (2, .int .u8 0), (3, .int .u8 0)] [0, 0, 0, 0] rfl (by kernel_rfl) (by rw [Array.toList_map]; exact (show [(0, a.eval (.const (.int .u8 0))), (1, a.eval (.const (.int .u8 0))), (2, a.eval (.const (.int .u8 0))), (3, a.eval (.const (.int .u8 0)))] = _ from (li_cons (rfl) (li_cons (rfl) (li_cons (rfl) (li_cons (rfl) rfl)))))) (by kernel_rfl) rfl (hI.2.2.2.2).size (Nat.le_of_ble_eq_true rfl)) ?_
  exact .nil
 clear hS
 intro gX d4 hS dA hp
 replace hS := ((hS.nil).cons (hS.get 2 rfl)).cons (hS.get 0 rfl)
 have dq : sl _ 42 = .slice bH ((((([IntKind.u8.wrap aa, 18] ++ ac : List Int) ++ [IntKind.u8.wrap ab, 0] : List Int) ++ ae : List Int) ++ af : List Int).length) bN := hp 0 (by decide)
 obtain ⟨fx, fE, cL, hA, e9⟩ := Kd.R_reads (show Kd.R (Kd.int .u8) 5 d4 bS.heap.size (fun _ => True) (sl _ 43) [0, 0, 0, 0] from hp 1 (by decide))
 have hL : Kd.R (Kd.int .u8) 5 d4 bS.heap.size (fun _ => True) (.slice fx [0, 0, 0, 0].length fE) [0, 0, 0, 0] := cL ▸ (hp 1 (by decide))
 have hS := hS.cons dq
 have hS := hS.cons cL
 clear hp dq cL
 show wpList _ _ _ [_, _] _ _
 refine list_step rfl (does_more (W := w9) (.tmp 42) (.tmp 43) 36 5 1 rfl (by kernel_rfl) (by kernel_rfl) (by decide) _ (((([IntKind.u8.wrap aa, 18] ++ ac : List Int) ++ [IntKind.u8.wrap ab, 0] : List Int) ++ ae : List Int) ++ af : List Int) [0, 0, 0, 0] _ _ (hS.get 1 rfl) (hS.get 0 rfl) (Kd.R_below fg dA.2.2.2.1) (Kd.C_below e9 (bR d4)) dA.2.2.1 c8) ?_
 rintro hT eI ⟨hb, hr, hk⟩
 clear hk
 have c0 := below_step al.1 hb
 have cv := below_step al.2 hb
 have cw := hb
 replace hS := (hS.nil).cons (hS.get 3 rfl)
 obtain ⟨bI, bO, rfl, hB, hl⟩ := Kd.R_reads hr
 have fh := hr
 clear hr
 refine hS.next (v := .slice bI (((((([IntKind.u8.wrap aa, 18] ++ ac : List Int) ++ [IntKind.u8.wrap ab, 0] : List Int) ++ ae : List Int) ++ af : List Int) ++ [0, 0, 0, 0] : List Int).length) bO) (d := 44) rfl (by decide) (by rfl) ?_
 clear hS
 intro gY hS
 refine list_step rfl (R := fun v w' => Below _ _ w' ∧ (IsV (.slice bI (((((([IntKind.u8.wrap aa, 18] ++ ac : List Int) ++ [IntKind.u8.wrap ab, 0] : List Int) ++ ae : List Int) ++ af : List Int) ++ [0, 0, 0, 0] : List Int).length) bO)) v w') (does_val (x_assign rfl (hS.get 0 rfl)) rfl) ?_
 rintro fp b8 ⟨hb, he⟩
 have da := below_step c0 hb
 have cx := below_step cv hb
 have cy := below_step cw hb
 have b3 := below_step (bR eI) hb
 obtain rfl : fp = .slice bI (((((([IntKind.u8.wrap aa, 18] ++ ac : List Int) ++ [IntKind.u8.wrap ab, 0] : List Int) ++ ae : List Int) ++ af : List Int) ++ [0, 0, 0, 0] : List Int).length) bO := he
 refine hS.next (v := .slice bI (((((([IntKind.u8.wrap aa, 18] ++ ac : List Int) ++ [IntKind.u8.wrap ab, 0] : List Int) ++ ae : List Int) ++ af : List Int) ++ [0, 0, 0, 0] : List Int).length) bO) (d := 5) rfl (by decide) (by rfl) ?_
 clear hS
 intro gZ hS
 refine wpList_nil ?_
 refine eY _ _ ?_
 refine wp_seq_k (fun h8 eZ => ?_)
 refine reg_seq_tail 4 (I := I5_ w w3 w9 eI b8) (ps := [IsV (.slice bI (((((([IntKind.u8.wrap aa, 18] ++ ac : List Int) ++ [IntKind.u8.wrap ab, 0] : List Int) ++ ae : List Int) ++ af : List Int) ++ [0, 0, 0, 0] : List Int).length) bO), VP g4 4, IsV (.agg #[.int .u64 ay, .int .i64 az]), IsR (Kd.int .u8) 5 b8.heap.size aj]) (by kernel_rfl) ?_ ?_ rfl hS ⟨da, cx, cy, b3, (bR b8)⟩ ?_ ?_
 ·exact bs5
 ·exact .v (.v (.v (.cons (Stays.r _ _ _ _) (.nil))))
 ·refine .ms 0 rfl rfl rfl ?_
  refine .on rfl (fun a w hS hI hp => does_val (x_fieldE (b := 0) rfl (hS.get 2 rfl) Try.underlying28 rfl rfl (by kernel_rfl)) rfl) ?_
  refine .on rfl (fun a w hS hI hp => does_loadmid (cs := [.int .u64 ay, .int .i64 az]) rfl (hp.V 1 rfl rfl) (((hI.2.1).block g4 (blk_lt ad)).trans ad) (by kernel_rfl) Try.underlying24 rfl (by kernel_rfl) rfl) ?_
  refine .on rfl (fun a w hS hI hp => does_call (by kernel_rfl) (ar1 (hp.V 2 rfl rfl)) ((carillonref04_Put.calls k ay az aj _  eR).mono fun _ _ h => h.elim fun v0 h => ⟨v0, h.1, h.2.2, Kd.R_lower h.2.1 hI.2.2.2.2.size⟩)) ?_
  exact .nil
 clear hS
 intro g0 d5 hS dB hp
 replace hS := ((hS.nil).cons (hS.get 2 rfl)).cons (hS.get 0 rfl)
 have dr : sl _ 45 = .slice bI (((((([IntKind.u8.wrap aa, 18] ++ ac : List Int) ++ [IntKind.u8.wrap ab, 0] : List Int) ++ ae : List Int) ++ af : List Int) ++ [0, 0, 0, 0] : List Int).length) bO := hp 0 (by decide)
 obtain ⟨fy, fF, cM, hC, fa⟩ := Kd.R_reads (show Kd.R (Kd.int .u8) 5 d5 b8.heap.size (fun _ => True) (sl _ 48) aj from hp 3 (by decide))
 have hM : Kd.R (Kd.int .u8) 5 d5 b8.heap.size (fun _ => True) (.slice fy aj.length fF) aj := cM ▸ (hp 3 (by decide))
 have hS := hS.cons dr
 have hS := hS.cons cM
 clear hp dr cM
 show wpList _ _ _ [_, _] _ _
 refine list_step rfl (does_more (W := w9) (.tmp 45) (.tmp 48) 36 5 1 rfl (by kernel_rfl) (by kernel_rfl) (by decide) _ ((((([IntKind.u8.wrap aa, 18] ++ ac : List Int) ++ [IntKind.u8.wrap ab, 0] : List Int) ++ ae : List Int) ++ af : List Int) ++ [0, 0, 0, 0] : List Int) aj _ _ (hS.get 1 rfl) (hS.get 0 rfl) (Kd.R_below fh dB.2.2.2.1) (Kd.C_below fa (bR d5)) dB.2.2.1 c9) ?_
 rintro hU eJ ⟨hb, hr, hk⟩
 clear hk
 have db := below_step al.1 hb
 have cz := below_step al.2 hb
 have cA := hb
 replace hS := (hS.nil).cons (hS.get 3 rfl)
 obtain ⟨bJ, bP, rfl, hD, hm⟩ := Kd.R_reads hr
 have fi := hr
 clear hr
 refine hS.next (v := .slice bJ ((((((([IntKind.u8.wrap aa, 18] ++ ac : List Int) ++ [IntKind.u8.wrap ab, 0] : List Int) ++ ae : List Int) ++ af : List Int) ++ [0, 0, 0, 0] : List Int) ++ aj : List Int).length) bP) (d := 49) rfl (by decide) (by rfl) ?_
 clear hS
 intro g1 hS
 refine list_step rfl (R := fun v w' => Below _ _ w' ∧ (IsV (.slice bJ ((((((([IntKind.u8.wrap aa, 18] ++ ac : List Int) ++ [IntKind.u8.wrap ab, 0] : List Int) ++ ae : List Int) ++ af : List Int) ++ [0, 0, 0, 0] : List Int) ++ aj : List Int).length) bP)) v w') (does_val (x_assign rfl (hS.get 0 rfl)) rfl) ?_
 rintro fq b9 ⟨hb, he⟩
 have dc := below_step db hb
 have cB := below_step cz hb
 have cC := below_step cA hb
 have b4 := below_step (bR eJ) hb
 obtain rfl : fq = .slice bJ ((((((([IntKind.u8.wrap aa, 18] ++ ac : List Int) ++ [IntKind.u8.wrap ab, 0] : List Int) ++ ae : List Int) ++ af : List Int) ++ [0, 0, 0, 0] : List Int) ++ aj : List Int).length) bP := he
 refine hS.next (v := .slice bJ ((((((([IntKind.u8.wrap aa, 18] ++ ac : List Int) ++ [IntKind.u8.wrap ab, 0] : List Int) ++ ae : List Int) ++ af : List Int) ++ [0, 0, 0, 0] : List Int) ++ aj : List Int).length) bP) (d := 5) rfl (by decide) (by rfl) ?_
 clear hS
 intro g2 hS
 refine wpList_nil ?_
 refine eZ _ _ ?_
 refine wp_seq_k (fun h9 e0 => ?_)
 refine reg_seq_tail 4 (I := I5_ w w3 w9 eJ b9) (ps := [IsV (.slice bJ ((((((([IntKind.u8.wrap aa, 18] ++ ac : List Int) ++ [IntKind.u8.wrap ab, 0] : List Int) ++ ae : List Int) ++ af : List Int) ++ [0, 0, 0, 0] : List Int) ++ aj : List Int).length) bP), VP g4 6, VI aG, IsR (Kd.int .u8) 5 b9.heap.size ao]) (by kernel_rfl) ?_ ?_ rfl hS ⟨dc, cB, cC, b4, (bR b9)⟩ ?_ ?_
 ·exact bs5
 ·exact .v (.v (.v (.cons (Stays.r _ _ _ _) (.nil))))
 ·refine .ms 0 rfl rfl rfl ?_
  refine .on rfl (fun a w hS hI hp => does_val (x_fieldE (b := 0) rfl (hS.get 2 rfl) Try.underlying28 rfl rfl (by kernel_rfl)) rfl) ?_
  refine .on rfl (fun a w hS hI hp => does_val (x_load1 (d := .int .i64) rfl (hp.V 1 rfl rfl) (by kernel_rfl) rfl ((blk_cell (((hI.2.1).block g4 (blk_lt ad)).trans ad) 6).trans rfl)) rfl) ?_
  refine .on rfl (fun a w hS hI hp => does_call (by kernel_rfl) (ar2 (hp.V 2 rfl rfl) (rfl)) ((carillonref01_Put.calls k aG 2 ao _  eS).mono fun _ _ h => h.elim fun v0 h => ⟨v0, h.1, h.2.2, Kd.R_lower h.2.1 hI.2.2.2.2.size⟩)) ?_
  exact .nil
 clear hS
 intro g3 d6 hS dC hp
 replace hS := ((hS.nil).cons (hS.get 2 rfl)).cons (hS.get 0 rfl)
 have dt : sl _ 50 = .slice bJ ((((((([IntKind.u8.wrap aa, 18] ++ ac : List Int) ++ [IntKind.u8.wrap ab, 0] : List Int) ++ ae : List Int) ++ af : List Int) ++ [0, 0, 0, 0] : List Int) ++ aj : List Int).length) bP := hp 0 (by decide)
 obtain ⟨fz, fG, cN, hE, fb⟩ := Kd.R_reads (show Kd.R (Kd.int .u8) 5 d6 b9.heap.size (fun _ => True) (sl _ 53) ao from hp 3 (by decide))
 have hN : Kd.R (Kd.int .u8) 5 d6 b9.heap.size (fun _ => True) (.slice fz ao.length fG) ao := cN ▸ (hp 3 (by decide))
 have hS := hS.cons dt
 have hS := hS.cons cN
 clear hp dt cN
 show wpList _ _ _ [_, _] _ _
 refine list_step rfl (does_more (W := w9) (.tmp 50) (.tmp 53) 36 5 1 rfl (by kernel_rfl) (by kernel_rfl) (by decide) _ (((((([IntKind.u8.wrap aa, 18] ++ ac : List Int) ++ [IntKind.u8.wrap ab, 0] : List Int) ++ ae : List Int) ++ af : List Int) ++ [0, 0, 0, 0] : List Int) ++ aj : List Int) ao _ _ (hS.get 1 rfl) (hS.get 0 rfl) (Kd.R_below fi dC.2.2.2.1) (Kd.C_below fb (bR d6)) dC.2.2.1 dj) ?_
 rintro hV ah ⟨hb, hr, hk⟩
 clear hk
 have dd := below_step al.1 hb
 have cD := below_step al.2 hb
 have cE := hb
 replace hS := (hS.nil).cons (hS.get 3 rfl)
 obtain ⟨bu, bv, rfl, hF, hn⟩ := Kd.R_reads hr
 have fj := hr
 clear hr
 refine hS.next (v := .slice bu (((((((([IntKind.u8.wrap aa, 18] ++ ac : List Int) ++ [IntKind.u8.wrap ab, 0] : List Int) ++ ae : List Int) ++ af : List Int) ++ [0, 0, 0, 0] : List Int) ++ aj : List Int) ++ ao : List Int).length) bv) (d := 54) rfl (by decide) (by rfl) ?_
 clear hS
 intro g5 hS
 refine list_step rfl (R := fun v w' => Below _ _ w' ∧ (IsV (.slice bu (((((((([IntKind.u8.wrap aa, 18] ++ ac : List Int) ++ [IntKind.u8.wrap ab, 0] : List Int) ++ ae : List Int) ++ af : List Int) ++ [0, 0, 0, 0] : List Int) ++ aj : List Int) ++ ao : List Int).length) bv)) v w') (does_val (x_assign rfl (hS.get 0 rfl)) rfl) ?_
 rintro fr eK ⟨hb, he⟩
 have de := below_step dd hb
 have cF := below_step cD hb
 have cG := below_step cE hb
 have b5 := below_step (bR ah) hb
 obtain rfl : fr = .slice bu (((((((([IntKind.u8.wrap aa, 18] ++ ac : List Int) ++ [IntKind.u8.wrap ab, 0] : List Int) ++ ae : List Int) ++ af : List Int) ++ [0, 0, 0, 0] : List Int) ++ aj : List Int) ++ ao : List Int).length) bv := he
 refine hS.next (v := .slice bu (((((((([IntKind.u8.wrap aa, 18] ++ ac : List Int) ++ [IntKind.u8.wrap ab, 0] : List Int) ++ ae : List Int) ++ af : List Int) ++ [0, 0, 0, 0] : List Int) ++ aj : List Int) ++ ao : List Int).length) bv) (d := 5) rfl (by decide) (by rfl) ?_
 clear hS
 intro g6 hS
 refine wpList_nil ?_
 refine e0 _ _ ?_
 refine wp_seq_k (fun ia e1 => ?_)
 refine reg_seq (I := I5_ w w3 w9 ah eK) (ps := [IsV (.int .u8 5)]) (by kernel_rfl) ?_ ?_ rfl hS ⟨de, cF, cG, b5, (bR eK)⟩ ?_ ?_
 ·exact bs5
 ·exact .v (.nil)
 ·refine .on rfl (fun a w hS hI hp => does_val (x_assign rfl (rfl)) rfl) ?_
  exact .nil
 clear hS
 intro g7 ag hS ai hp
 replace hS := ((hS.nil).cons (hS.get 2 rfl)).cons (hS.get 0 rfl)
 have au : sl _ 6 = .int .u8 5 := hp 0 (by decide)
 have hS := hS.cons au
 clear hp au
 refine e1 _ _ ?_
 refine wp_seq_k (fun ib e2 => ?_)
 refine wp_mono (Q := fun e a' w' => e = Exit.normal ∧ St 74 [(2, .pointer (some ⟨g4, 0, none⟩)), (5, .slice bu (((((((([IntKind.u8.wrap aa, 18] ++ ac : List Int) ++ [IntKind.u8.wrap ab, 0] : List Int) ++ ae : List Int) ++ af : List Int) ++ [0, 0, 0, 0] : List Int) ++ aj : List Int) ++ ao : List Int).length) bv), (6, .int .u8 (if aa = 0 then 0 else (if aa = 1 then 1 else (if aa = 8 then 2 else (if aa = 9 then 3 else (if aa = 13 then 4 else 5))))))] a' ∧ Below w.heap.size w w' ∧ Below w3.heap.size w3 w' ∧ Below w9.heap.size w9 w' ∧ Below ah.heap.size ah w' ∧ Below ag.heap.size ag w') ?_ ?_
 ·by_cases ap : aa = 0
  ·refine wp_seq_k (fun ic e3 => ?_)
   refine reg_seq (I := I5_ w w3 w9 ah ag) (ps := [VP g4 0, VI aa]) (by kernel_rfl) ?_ ?_ rfl hS ⟨ai.1, ai.2.1, ai.2.2.1, ai.2.2.2.1, (bR ag)⟩ ?_ ?_
   ·exact bs5
   ·exact .v (.v (.nil))
   ·refine .on rfl (fun a w hS hI hp => does_val (x_fieldE (b := 0) rfl (hS.get 2 rfl) Try.underlying28 rfl rfl (by kernel_rfl)) rfl) ?_
    refine .on rfl (fun a w hS hI hp => does_val (x_load1 (d := .int .i64) rfl (hp.V 0 rfl rfl) (by kernel_rfl) rfl ((blk_cell (((hI.2.1).block g4 (blk_lt ad)).trans ad) 0).trans rfl)) rfl) ?_
    exact .nil
   clear hS
   intro g8 eL hS bA hp
   have am : sl _ 56 = .int .i64 aa := hp 1 (by decide)
   have hS := hS.cons am
   clear hp am
   refine e3 _ _ ?_
   refine wp_block ?_
   refine wp_seq_k (fun ie e4 => ?_)
   refine reg_seq (I := I6_ w w3 w9 ah ag eL) (ps := [VB (decide (aa = 0)), VB (decide (aa = 0))]) (by kernel_rfl) ?_ ?_ rfl hS ⟨bA.1, bA.2.1, bA.2.2.1, bA.2.2.2.1, bA.2.2.2.2, (bR eL)⟩ ?_ ?_
   ·exact bs6
   ·exact .v (.v (.nil))
   ·refine .on rfl (fun a w hS hI hp => does_val (x_bin rfl (hS.get 0 rfl) (rfl) (b_eql _ _ _ _ _ _)) rfl) ?_
    refine .asg 0 rfl rfl rfl ?_
    exact .nil
   clear hS
   intro g9 eM hS bB hp
   have an : sl _ 57 = .bool (decide (aa = 0)) := hp 1 (by decide)
   have hS := hS.cons an
   clear hp an
   refine e4 _ _ ?_
   refine wp_cond_true ((hS.get 0 rfl).trans (bT (decide_eq_true ap))) ?_
   replace hS := ((((hS.nil).cons (hS.get 4 rfl)).cons (hS.get 3 rfl)).cons (hS.get 1 rfl)).cons (hS.get 0 rfl)
   refine reg_seq (I := I6_ w w3 w9 ah ag eM) (ps := [IsV (.int .u8 0)]) (by kernel_rfl) ?_ ?_ rfl hS ⟨bB.1, bB.2.1, bB.2.2.1, bB.2.2.2.1, bB.2.2.2.2.1, (bR eM)⟩ ?_ ?_
   ·exact bs6
   ·exact .v (.nil)
   ·refine .on rfl (fun a w hS hI hp => does_val (x_assign rfl (rfl)) rfl) ?_
    exact .nil
   clear hS
   intro ha hW hS aV hp
   replace hS := ((hS.nil).cons (hS.get 3 rfl)).cons (hS.get 2 rfl)
   have au : sl _ 6 = .int .u8 0 := hp 0 (by decide)
   have hS := hS.cons au
   clear hp au
   (try simp only [Exit.then, Exit.inBlock, reduceIte])
   exact ⟨by trivial, (((hS.nil).cons ((hS.get 0 rfl).trans (congrArg (Value.int .u8) (by simp only [if_pos ap])))).cons (hS.get 1 rfl)).cons (hS.get 2 rfl), aV.1, aV.2.1, aV.2.2.1, aV.2.2.2.1, aV.2.2.2.2.1⟩
  ·by_cases ar : aa = 1
   ·refine wp_seq_k (fun gm d8 => ?_)
    refine reg_seq (I := I5_ w w3 w9 ah ag) (ps := [VP g4 0, VI aa]) (by kernel_rfl) ?_ ?_ rfl hS ⟨ai.1, ai.2.1, ai.2.2.1, ai.2.2.2.1, (bR ag)⟩ ?_ ?_
    ·exact bs5
    ·exact .v (.v (.nil))
    ·refine .on rfl (fun a w hS hI hp => does_val (x_fieldE (b := 0) rfl (hS.get 2 rfl) Try.underlying28 rfl rfl (by kernel_rfl)) rfl) ?_
     refine .on rfl (fun a w hS hI hp => does_val (x_load1 (d := .int .i64) rfl (hp.V 0 rfl rfl) (by kernel_rfl) rfl ((blk_cell (((hI.2.1).block g4 (blk_lt ad)).trans ad) 0).trans rfl)) rfl) ?_
     exact .nil
    clear hS
    intro fK dD hS aW hp
    have am : sl _ 56 = .int .i64 aa := hp 1 (by decide)
    have hS := hS.cons am
    clear hp am
    refine d8 _ _ ?_
    refine wp_block ?_
    refine wp_seq_k (fun gn d9 => ?_)
    refine reg_seq (I := I6_ w w3 w9 ah ag dD) (ps := [VB (decide (aa = 0)), VB (decide (aa = 0))]) (by kernel_rfl) ?_ ?_ rfl hS ⟨aW.1, aW.2.1, aW.2.2.1, aW.2.2.2.1, aW.2.2.2.2, (bR dD)⟩ ?_ ?_
    ·exact bs6
    ·exact .v (.v (.nil))
    ·refine .on rfl (fun a w hS hI hp => does_val (x_bin rfl (hS.get 0 rfl) (rfl) (b_eql _ _ _ _ _ _)) rfl) ?_
     refine .asg 0 rfl rfl rfl ?_
     exact .nil
    clear hS
    intro fL dE hS aX hp
    have an : sl _ 57 = .bool (decide (aa = 0)) := hp 1 (by decide)
    have hS := hS.cons an
    clear hp an
    refine d9 _ _ ?_
    refine wp_cond_false ((hS.get 0 rfl).trans (bF (decide_eq_false ap))) ?_
    refine wp_seq_k (fun go ea => ?_)
    refine reg_seq (I := I6_ w w3 w9 ah ag dE) (ps := [VB (decide (aa = 1)), VB (decide (aa = 1))]) (by kernel_rfl) ?_ ?_ rfl hS ⟨aX.1, aX.2.1, aX.2.2.1, aX.2.2.2.1, aX.2.2.2.2.1, (bR dE)⟩ ?_ ?_
    ·exact bs6
    ·exact .v (.v (.nil))
    ·refine .on rfl (fun a w hS hI hp => does_val (x_bin rfl (hS.get 1 rfl) (rfl) (b_eql _ _ _ _ _ _)) rfl) ?_
     refine .asg 0 rfl rfl rfl ?_
     exact .nil
    clear hS
    intro fM dF hS aY hp
    replace hS := ((((hS.nil).cons (hS.get 4 rfl)).cons (hS.get 3 rfl)).cons (hS.get 2 rfl)).cons (hS.get 1 rfl)
    have aq : sl _ 59 = .bool (decide (aa = 1)) := hp 1 (by decide)
    have hS := hS.cons aq
    clear hp aq
    refine ea _ _ ?_
    refine wp_cond_true ((hS.get 0 rfl).trans (bT (decide_eq_true ar))) ?_
    replace hS := ((((hS.nil).cons (hS.get 4 rfl)).cons (hS.get 3 rfl)).cons (hS.get 1 rfl)).cons (hS.get 0 rfl)
    refine reg_seq (I := I6_ w w3 w9 ah ag dF) (ps := [IsV (.int .u8 1)]) (by kernel_rfl) ?_ ?_ rfl hS ⟨aY.1, aY.2.1, aY.2.2.1, aY.2.2.2.1, aY.2.2.2.2.1, (bR dF)⟩ ?_ ?_
    ·exact bs6
    ·exact .v (.nil)
    ·refine .on rfl (fun a w hS hI hp => does_val (x_assign rfl (rfl)) rfl) ?_
     exact .nil
    clear hS
    intro fN hX hS aZ hp
    replace hS := ((hS.nil).cons (hS.get 3 rfl)).cons (hS.get 2 rfl)
    have au : sl _ 6 = .int .u8 1 := hp 0 (by decide)
    have hS := hS.cons au
    clear hp au
    (try simp only [Exit.then, Exit.inBlock, reduceIte])
    exact ⟨by trivial, (((hS.nil).cons ((hS.get 0 rfl).trans (congrArg (Value.int .u8) (by simp only [if_neg ap, if_pos ar])))).cons (hS.get 1 rfl)).cons (hS.get 2 rfl), aZ.1, aZ.2.1, aZ.2.2.1, aZ.2.2.2.1, aZ.2.2.2.2.1⟩
   ·by_cases aw : aa = 8
    ·refine wp_seq_k (fun gp eb => ?_)
     refine reg_seq (I := I5_ w w3 w9 ah ag) (ps := [VP g4 0, VI aa]) (by kernel_rfl) ?_ ?_ rfl hS ⟨ai.1, ai.2.1, ai.2.2.1, ai.2.2.2.1, (bR ag)⟩ ?_ ?_
     ·exact bs5
     ·exact .v (.v (.nil))
     ·refine .on rfl (fun a w hS hI hp => does_val (x_fieldE (b := 0) rfl (hS.get 2 rfl) Try.underlying28 rfl rfl (by kernel_rfl)) rfl) ?_
      refine .on rfl (fun a w hS hI hp => does_val (x_load1 (d := .int .i64) rfl (hp.V 0 rfl rfl) (by kernel_rfl) rfl ((blk_cell (((hI.2.1).block g4 (blk_lt ad)).trans ad) 0).trans rfl)) rfl) ?_
      exact .nil
     clear hS
     intro fO dG hS a0 hp
     have am : sl _ 56 = .int .i64 aa := hp 1 (by decide)
     have hS := hS.cons am
     clear hp am
     refine eb _ _ ?_
     refine wp_block ?_
     refine wp_seq_k (fun gq ec => ?_)
     refine reg_seq (I := I6_ w w3 w9 ah ag dG) (ps := [VB (decide (aa = 0)), VB (decide (aa = 0))]) (by kernel_rfl) ?_ ?_ rfl hS ⟨a0.1, a0.2.1, a0.2.2.1, a0.2.2.2.1, a0.2.2.2.2, (bR dG)⟩ ?_ ?_
     ·exact bs6
     ·exact .v (.v (.nil))
     ·refine .on rfl (fun a w hS hI hp => does_val (x_bin rfl (hS.get 0 rfl) (rfl) (b_eql _ _ _ _ _ _)) rfl) ?_
      refine .asg 0 rfl rfl rfl ?_
      exact .nil
     clear hS
     intro fP dH hS a2 hp
     have an : sl _ 57 = .bool (decide (aa = 0)) := hp 1 (by decide)
     have hS := hS.cons an
     clear hp an
     refine ec _ _ ?_
     refine wp_cond_false ((hS.get 0 rfl).trans (bF (decide_eq_false ap))) ?_
     refine wp_seq_k (fun gr ed => ?_)
     refine reg_seq (I := I6_ w w3 w9 ah ag dH) (ps := [VB (decide (aa = 1)), VB (decide (aa = 1))]) (by kernel_rfl) ?_ ?_ rfl hS ⟨a2.1, a2.2.1, a2.2.2.1, a2.2.2.2.1, a2.2.2.2.2.1, (bR dH)⟩ ?_ ?_
     ·exact bs6
     ·exact .v (.v (.nil))
     ·refine .on rfl (fun a w hS hI hp => does_val (x_bin rfl (hS.get 1 rfl) (rfl) (b_eql _ _ _ _ _ _)) rfl) ?_
      refine .asg 0 rfl rfl rfl ?_
      exact .nil
     clear hS
     intro fQ dI hS a3 hp
     replace hS := ((((hS.nil).cons (hS.get 4 rfl)).cons (hS.get 3 rfl)).cons (hS.get 2 rfl)).cons (hS.get 1 rfl)
     have aq : sl _ 59 = .bool (decide (aa = 1)) := hp 1 (by decide)
     have hS := hS.cons aq
     clear hp aq
     refine ed _ _ ?_
     refine wp_cond_false ((hS.get 0 rfl).trans (bF (decide_eq_false ar))) ?_
     refine wp_seq_k (fun gs ee => ?_)
     refine reg_seq (I := I6_ w w3 w9 ah ag dI) (ps := [VB (decide (aa = 8)), VB (decide (aa = 8))]) (by kernel_rfl) ?_ ?_ rfl hS ⟨a3.1, a3.2.1, a3.2.2.1, a3.2.2.2.1, a3.2.2.2.2.1, (bR dI)⟩ ?_ ?_
     ·exact bs6
     ·exact .v (.v (.nil))
     ·refine .on rfl (fun a w hS hI hp => does_val (x_bin rfl (hS.get 1 rfl) (rfl) (b_eql _ _ _ _ _ _)) rfl) ?_
      refine .asg 0 rfl rfl rfl ?_
      exact .nil
     clear hS
     intro fR dJ hS a4 hp
     replace hS := ((((hS.nil).cons (hS.get 4 rfl)).cons (hS.get 3 rfl)).cons (hS.get 2 rfl)).cons (hS.get 1 rfl)
     have av : sl _ 61 = .bool (decide (aa = 8)) := hp 1 (by decide)
     have hS := hS.cons av
     clear hp av
     refine ee _ _ ?_
     refine wp_cond_true ((hS.get 0 rfl).trans (bT (decide_eq_true aw))) ?_
     replace hS := ((((hS.nil).cons (hS.get 4 rfl)).cons (hS.get 3 rfl)).cons (hS.get 1 rfl)).cons (hS.get 0 rfl)
     refine reg_seq (I := I6_ w w3 w9 ah ag dJ) (ps := [IsV (.int .u8 2)]) (by kernel_rfl) ?_ ?_ rfl hS ⟨a4.1, a4.2.1, a4.2.2.1, a4.2.2.2.1, a4.2.2.2.2.1, (bR dJ)⟩ ?_ ?_
     ·exact bs6
     ·exact .v (.nil)
     ·refine .on rfl (fun a w hS hI hp => does_val (x_assign rfl (rfl)) rfl) ?_
      exact .nil
     clear hS
     intro fS hY hS a5 hp
     replace hS := ((hS.nil).cons (hS.get 3 rfl)).cons (hS.get 2 rfl)
     have au : sl _ 6 = .int .u8 2 := hp 0 (by decide)
     have hS := hS.cons au
     clear hp au
     (try simp only [Exit.then, Exit.inBlock, reduceIte])
     exact ⟨by trivial, (((hS.nil).cons ((hS.get 0 rfl).trans (congrArg (Value.int .u8) (by simp only [if_neg ap, if_neg ar, if_pos aw])))).cons (hS.get 1 rfl)).cons (hS.get 2 rfl), a5.1, a5.2.1, a5.2.2.1, a5.2.2.2.1, a5.2.2.2.2.1⟩
    ·by_cases aC : aa = 9
     ·refine wp_seq_k (fun gt ef => ?_)
      refine reg_seq (I := I5_ w w3 w9 ah ag) (ps := [VP g4 0, VI aa]) (by kernel_rfl) ?_ ?_ rfl hS ⟨ai.1, ai.2.1, ai.2.2.1, ai.2.2.2.1, (bR ag)⟩ ?_ ?_
      ·exact bs5
      ·exact .v (.v (.nil))
      ·refine .on rfl (fun a w hS hI hp => does_val (x_fieldE (b := 0) rfl (hS.get 2 rfl) Try.underlying28 rfl rfl (by kernel_rfl)) rfl) ?_
       refine .on rfl (fun a w hS hI hp => does_val (x_load1 (d := .int .i64) rfl (hp.V 0 rfl rfl) (by kernel_rfl) rfl ((blk_cell (((hI.2.1).block g4 (blk_lt ad)).trans ad) 0).trans rfl)) rfl) ?_
       exact .nil
      clear hS
      intro fT dK hS a6 hp
      have am : sl _ 56 = .int .i64 aa := hp 1 (by decide)
      have hS := hS.cons am
      clear hp am
      refine ef _ _ ?_
      refine wp_block ?_
      refine wp_seq_k (fun gu eg => ?_)
      refine reg_seq (I := I6_ w w3 w9 ah ag dK) (ps := [VB (decide (aa = 0)), VB (decide (aa = 0))]) (by kernel_rfl) ?_ ?_ rfl hS ⟨a6.1, a6.2.1, a6.2.2.1, a6.2.2.2.1, a6.2.2.2.2, (bR dK)⟩ ?_ ?_
      ·exact bs6
      ·exact .v (.v (.nil))
      ·refine .on rfl (fun a w hS hI hp => does_val (x_bin rfl (hS.get 0 rfl) (rfl) (b_eql _ _ _ _ _ _)) rfl) ?_
       refine .asg 0 rfl rfl rfl ?_
       exact .nil
      clear hS
      intro fU dL hS a7 hp
      have an : sl _ 57 = .bool (decide (aa = 0)) := hp 1 (by decide)
      have hS := hS.cons an
      clear hp an
      refine eg _ _ ?_
      refine wp_cond_false ((hS.get 0 rfl).trans (bF (decide_eq_false ap))) ?_
      refine wp_seq_k (fun gv eh => ?_)
      refine reg_seq (I := I6_ w w3 w9 ah ag dL) (ps := [VB (decide (aa = 1)), VB (decide (aa = 1))]) (by kernel_rfl) ?_ ?_ rfl hS ⟨a7.1, a7.2.1, a7.2.2.1, a7.2.2.2.1, a7.2.2.2.2.1, (bR dL)⟩ ?_ ?_
      ·exact bs6
      ·exact .v (.v (.nil))
      ·refine .on rfl (fun a w hS hI hp => does_val (x_bin rfl (hS.get 1 rfl) (rfl) (b_eql _ _ _ _ _ _)) rfl) ?_
       refine .asg 0 rfl rfl rfl ?_
       exact .nil
      clear hS
      intro fV dN hS a8 hp
      replace hS := ((((hS.nil).cons (hS.get 4 rfl)).cons (hS.get 3 rfl)).cons (hS.get 2 rfl)).cons (hS.get 1 rfl)
      have aq : sl _ 59 = .bool (decide (aa = 1)) := hp 1 (by decide)
      have hS := hS.cons aq
      clear hp aq
      refine eh _ _ ?_
      refine wp_cond_false ((hS.get 0 rfl).trans (bF (decide_eq_false ar))) ?_
      refine wp_seq_k (fun gw ei => ?_)
      refine reg_seq (I := I6_ w w3 w9 ah ag dN) (ps := [VB (decide (aa = 8)), VB (decide (aa = 8))]) (by kernel_rfl) ?_ ?_ rfl hS ⟨a8.1, a8.2.1, a8.2.2.1, a8.2.2.2.1, a8.2.2.2.2.1, (bR dN)⟩ ?_ ?_
      ·exact bs6
      ·exact .v (.v (.nil))
      ·refine .on rfl (fun a w hS hI hp => does_val (x_bin rfl (hS.get 1 rfl) (rfl) (b_eql _ _ _ _ _ _)) rfl) ?_
       refine .asg 0 rfl rfl rfl ?_
       exact .nil
      clear hS
      intro fW dO hS a9 hp
      replace hS := ((((hS.nil).cons (hS.get 4 rfl)).cons (hS.get 3 rfl)).cons (hS.get 2 rfl)).cons (hS.get 1 rfl)
      have av : sl _ 61 = .bool (decide (aa = 8)) := hp 1 (by decide)
      have hS := hS.cons av
      clear hp av
      refine ei _ _ ?_
      refine wp_cond_false ((hS.get 0 rfl).trans (bF (decide_eq_false aw))) ?_
      refine wp_seq_k (fun gx ej => ?_)
      refine reg_seq (I := I6_ w w3 w9 ah ag dO) (ps := [VB (decide (aa = 9)), VB (decide (aa = 9))]) (by kernel_rfl) ?_ ?_ rfl hS ⟨a9.1, a9.2.1, a9.2.2.1, a9.2.2.2.1, a9.2.2.2.2.1, (bR dO)⟩ ?_ ?_
      ·exact bs6
      ·exact .v (.v (.nil))
      ·refine .on rfl (fun a w hS hI hp => does_val (x_bin rfl (hS.get 1 rfl) (rfl) (b_eql _ _ _ _ _ _)) rfl) ?_
       refine .asg 0 rfl rfl rfl ?_
       exact .nil
      clear hS
      intro fX dP hS ba hp
      replace hS := ((((hS.nil).cons (hS.get 4 rfl)).cons (hS.get 3 rfl)).cons (hS.get 2 rfl)).cons (hS.get 1 rfl)
      have aB : sl _ 63 = .bool (decide (aa = 9)) := hp 1 (by decide)
      have hS := hS.cons aB
      clear hp aB
      refine ej _ _ ?_
      refine wp_cond_true ((hS.get 0 rfl).trans (bT (decide_eq_true aC))) ?_
      replace hS := ((((hS.nil).cons (hS.get 4 rfl)).cons (hS.get 3 rfl)).cons (hS.get 1 rfl)).cons (hS.get 0 rfl)
      refine reg_seq (I := I6_ w w3 w9 ah ag dP) (ps := [IsV (.int .u8 3)]) (by kernel_rfl) ?_ ?_ rfl hS ⟨ba.1, ba.2.1, ba.2.2.1, ba.2.2.2.1, ba.2.2.2.2.1, (bR dP)⟩ ?_ ?_
      ·exact bs6
      ·exact .v (.nil)
      ·refine .on rfl (fun a w hS hI hp => does_val (x_assign rfl (rfl)) rfl) ?_
       exact .nil
      clear hS
      intro fY hZ hS bb hp
      replace hS := ((hS.nil).cons (hS.get 3 rfl)).cons (hS.get 2 rfl)
      have au : sl _ 6 = .int .u8 3 := hp 0 (by decide)
      have hS := hS.cons au
      clear hp au
      (try simp only [Exit.then, Exit.inBlock, reduceIte])
      exact ⟨by trivial, (((hS.nil).cons ((hS.get 0 rfl).trans (congrArg (Value.int .u8) (by simp only [if_neg ap, if_neg ar, if_neg aw, if_pos aC])))).cons (hS.get 1 rfl)).cons (hS.get 2 rfl), bb.1, bb.2.1, bb.2.2.1, bb.2.2.2.1, bb.2.2.2.2.1⟩
     ·by_cases bt : aa = 13
      ·refine wp_seq_k (fun gy ek => ?_)
       refine reg_seq (I := I5_ w w3 w9 ah ag) (ps := [VP g4 0, VI aa]) (by kernel_rfl) ?_ ?_ rfl hS ⟨ai.1, ai.2.1, ai.2.2.1, ai.2.2.2.1, (bR ag)⟩ ?_ ?_
       ·exact bs5
       ·exact .v (.v (.nil))
       ·refine .on rfl (fun a w hS hI hp => does_val (x_fieldE (b := 0) rfl (hS.get 2 rfl) Try.underlying28 rfl rfl (by kernel_rfl)) rfl) ?_
        refine .on rfl (fun a w hS hI hp => does_val (x_load1 (d := .int .i64) rfl (hp.V 0 rfl rfl) (by kernel_rfl) rfl ((blk_cell (((hI.2.1).block g4 (blk_lt ad)).trans ad) 0).trans rfl)) rfl) ?_
        exact .nil
       clear hS
       intro fZ dQ hS bc hp
       have am : sl _ 56 = .int .i64 aa := hp 1 (by decide)
       have hS := hS.cons am
       clear hp am
       refine ek _ _ ?_
       refine wp_block ?_
       refine wp_seq_k (fun gz el => ?_)
       refine reg_seq (I := I6_ w w3 w9 ah ag dQ) (ps := [VB (decide (aa = 0)), VB (decide (aa = 0))]) (by kernel_rfl) ?_ ?_ rfl hS ⟨bc.1, bc.2.1, bc.2.2.1, bc.2.2.2.1, bc.2.2.2.2, (bR dQ)⟩ ?_ ?_
       ·exact bs6
       ·exact .v (.v (.nil))
       ·refine .on rfl (fun a w hS hI hp => does_val (x_bin rfl (hS.get 0 rfl) (rfl) (b_eql _ _ _ _ _ _)) rfl) ?_
        refine .asg 0 rfl rfl rfl ?_
        exact .nil
       clear hS
       intro f0 dR hS bd hp
       have an : sl _ 57 = .bool (decide (aa = 0)) := hp 1 (by decide)
       have hS := hS.cons an
       clear hp an
       refine el _ _ ?_
       refine wp_cond_false ((hS.get 0 rfl).trans (bF (decide_eq_false ap))) ?_
       refine wp_seq_k (fun gA em => ?_)
       refine reg_seq (I := I6_ w w3 w9 ah ag dR) (ps := [VB (decide (aa = 1)), VB (decide (aa = 1))]) (by kernel_rfl) ?_ ?_ rfl hS ⟨bd.1, bd.2.1, bd.2.2.1, bd.2.2.2.1, bd.2.2.2.2.1, (bR dR)⟩ ?_ ?_
       ·exact bs6
       ·exact .v (.v (.nil))
       ·refine .on rfl (fun a w hS hI hp => does_val (x_bin rfl (hS.get 1 rfl) (rfl) (b_eql _ _ _ _ _ _)) rfl) ?_
        refine .asg 0 rfl rfl rfl ?_
        exact .nil
       clear hS
       intro f1 dS hS be hp
       replace hS := ((((hS.nil).cons (hS.get 4 rfl)).cons (hS.get 3 rfl)).cons (hS.get 2 rfl)).cons (hS.get 1 rfl)
       have aq : sl _ 59 = .bool (decide (aa = 1)) := hp 1 (by decide)
       have hS := hS.cons aq
       clear hp aq
       refine em _ _ ?_
       refine wp_cond_false ((hS.get 0 rfl).trans (bF (decide_eq_false ar))) ?_
       refine wp_seq_k (fun gB en => ?_)
       refine reg_seq (I := I6_ w w3 w9 ah ag dS) (ps := [VB (decide (aa = 8)), VB (decide (aa = 8))]) (by kernel_rfl) ?_ ?_ rfl hS ⟨be.1, be.2.1, be.2.2.1, be.2.2.2.1, be.2.2.2.2.1, (bR dS)⟩ ?_ ?_
       ·exact bs6
       ·exact .v (.v (.nil))
       ·refine .on rfl (fun a w hS hI hp => does_val (x_bin rfl (hS.get 1 rfl) (rfl) (b_eql _ _ _ _ _ _)) rfl) ?_
        refine .asg 0 rfl rfl rfl ?_
        exact .nil
       clear hS
       intro f2 dT hS bf hp
       replace hS := ((((hS.nil).cons (hS.get 4 rfl)).cons (hS.get 3 rfl)).cons (hS.get 2 rfl)).cons (hS.get 1 rfl)
       have av : sl _ 61 = .bool (decide (aa = 8)) := hp 1 (by decide)
       have hS := hS.cons av
       clear hp av
       refine en _ _ ?_
       refine wp_cond_false ((hS.get 0 rfl).trans (bF (decide_eq_false aw))) ?_
       refine wp_seq_k (fun gC eo => ?_)
       refine reg_seq (I := I6_ w w3 w9 ah ag dT) (ps := [VB (decide (aa = 9)), VB (decide (aa = 9))]) (by kernel_rfl) ?_ ?_ rfl hS ⟨bf.1, bf.2.1, bf.2.2.1, bf.2.2.2.1, bf.2.2.2.2.1, (bR dT)⟩ ?_ ?_
       ·exact bs6
       ·exact .v (.v (.nil))
       ·refine .on rfl (fun a w hS hI hp => does_val (x_bin rfl (hS.get 1 rfl) (rfl) (b_eql _ _ _ _ _ _)) rfl) ?_
        refine .asg 0 rfl rfl rfl ?_
        exact .nil
       clear hS
       intro f3 dU hS bg hp
       replace hS := ((((hS.nil).cons (hS.get 4 rfl)).cons (hS.get 3 rfl)).cons (hS.get 2 rfl)).cons (hS.get 1 rfl)
       have aB : sl _ 63 = .bool (decide (aa = 9)) := hp 1 (by decide)
       have hS := hS.cons aB
       clear hp aB
       refine eo _ _ ?_
       refine wp_cond_false ((hS.get 0 rfl).trans (bF (decide_eq_false aC))) ?_
       refine wp_seq_k (fun gD ep => ?_)
       refine reg_seq (I := I6_ w w3 w9 ah ag dU) (ps := [VB (decide (aa = 13)), VB (decide (aa = 13))]) (by kernel_rfl) ?_ ?_ rfl hS ⟨bg.1, bg.2.1, bg.2.2.1, bg.2.2.2.1, bg.2.2.2.2.1, (bR dU)⟩ ?_ ?_
       ·exact bs6
       ·exact .v (.v (.nil))
       ·refine .on rfl (fun a w hS hI hp => does_val (x_bin rfl (hS.get 1 rfl) (rfl) (b_eql _ _ _ _ _ _)) rfl) ?_
        refine .asg 0 rfl rfl rfl ?_
        exact .nil
       clear hS
       intro f4 dV hS bh hp
       replace hS := (((hS.nil).cons (hS.get 4 rfl)).cons (hS.get 3 rfl)).cons (hS.get 2 rfl)
       have bz : sl _ 65 = .bool (decide (aa = 13)) := hp 1 (by decide)
       have hS := hS.cons bz
       clear hp bz
       refine ep _ _ ?_
       refine wp_cond_true ((hS.get 0 rfl).trans (bT (decide_eq_true bt))) ?_
       replace hS := (((hS.nil).cons (hS.get 3 rfl)).cons (hS.get 2 rfl)).cons (hS.get 0 rfl)
       refine reg_seq (I := I6_ w w3 w9 ah ag dV) (ps := [IsV (.int .u8 4)]) (by kernel_rfl) ?_ ?_ rfl hS ⟨bh.1, bh.2.1, bh.2.2.1, bh.2.2.2.1, bh.2.2.2.2.1, (bR dV)⟩ ?_ ?_
       ·exact bs6
       ·exact .v (.nil)
       ·refine .on rfl (fun a w hS hI hp => does_val (x_assign rfl (rfl)) rfl) ?_
        exact .nil
       clear hS
       intro f5 h0 hS bi hp
       replace hS := ((hS.nil).cons (hS.get 2 rfl)).cons (hS.get 1 rfl)
       have au : sl _ 6 = .int .u8 4 := hp 0 (by decide)
       have hS := hS.cons au
       clear hp au
       (try simp only [Exit.then, Exit.inBlock, reduceIte])
       exact ⟨by trivial, (((hS.nil).cons ((hS.get 0 rfl).trans (congrArg (Value.int .u8) (by simp only [if_neg ap, if_neg ar, if_neg aw, if_neg aC, if_pos bt])))).cons (hS.get 1 rfl)).cons (hS.get 2 rfl), bi.1, bi.2.1, bi.2.2.1, bi.2.2.2.1, bi.2.2.2.2.1⟩
      ·refine wp_seq_k (fun gE eq => ?_)
       refine reg_seq (I := I5_ w w3 w9 ah ag) (ps := [VP g4 0, VI aa]) (by kernel_rfl) ?_ ?_ rfl hS ⟨ai.1, ai.2.1, ai.2.2.1, ai.2.2.2.1, (bR ag)⟩ ?_ ?_
       ·exact bs5
       ·exact .v (.v (.nil))
       ·refine .on rfl (fun a w hS hI hp => does_val (x_fieldE (b := 0) rfl (hS.get 2 rfl) Try.underlying28 rfl rfl (by kernel_rfl)) rfl) ?_
        refine .on rfl (fun a w hS hI hp => does_val (x_load1 (d := .int .i64) rfl (hp.V 0 rfl rfl) (by kernel_rfl) rfl ((blk_cell (((hI.2.1).block g4 (blk_lt ad)).trans ad) 0).trans rfl)) rfl) ?_
        exact .nil
       clear hS
       intro f6 dW hS bj hp
       have am : sl _ 56 = .int .i64 aa := hp 1 (by decide)
       have hS := hS.cons am
       clear hp am
       refine eq _ _ ?_
       refine wp_block ?_
       refine wp_seq_k (fun gF er => ?_)
       refine reg_seq (I := I6_ w w3 w9 ah ag dW) (ps := [VB (decide (aa = 0)), VB (decide (aa = 0))]) (by kernel_rfl) ?_ ?_ rfl hS ⟨bj.1, bj.2.1, bj.2.2.1, bj.2.2.2.1, bj.2.2.2.2, (bR dW)⟩ ?_ ?_
       ·exact bs6
       ·exact .v (.v (.nil))
       ·refine .on rfl (fun a w hS hI hp => does_val (x_bin rfl (hS.get 0 rfl) (rfl) (b_eql _ _ _ _ _ _)) rfl) ?_
        refine .asg 0 rfl rfl rfl ?_
        exact .nil
       clear hS
       intro f7 dX hS bk hp
       have an : sl _ 57 = .bool (decide (aa = 0)) := hp 1 (by decide)
       have hS := hS.cons an
       clear hp an
       refine er _ _ ?_
       refine wp_cond_false ((hS.get 0 rfl).trans (bF (decide_eq_false ap))) ?_
       refine wp_seq_k (fun gG es => ?_)
       refine reg_seq (I := I6_ w w3 w9 ah ag dX) (ps := [VB (decide (aa = 1)), VB (decide (aa = 1))]) (by kernel_rfl) ?_ ?_ rfl hS ⟨bk.1, bk.2.1, bk.2.2.1, bk.2.2.2.1, bk.2.2.2.2.1, (bR dX)⟩ ?_ ?_
       ·exact bs6
       ·exact .v (.v (.nil))
       ·refine .on rfl (fun a w hS hI hp => does_val (x_bin rfl (hS.get 1 rfl) (rfl) (b_eql _ _ _ _ _ _)) rfl) ?_
        refine .asg 0 rfl rfl rfl ?_
        exact .nil
       clear hS
       intro f8 dY hS bl hp
       replace hS := ((((hS.nil).cons (hS.get 4 rfl)).cons (hS.get 3 rfl)).cons (hS.get 2 rfl)).cons (hS.get 1 rfl)
       have aq : sl _ 59 = .bool (decide (aa = 1)) := hp 1 (by decide)
       have hS := hS.cons aq
       clear hp aq
       refine es _ _ ?_
       refine wp_cond_false ((hS.get 0 rfl).trans (bF (decide_eq_false ar))) ?_
       refine wp_seq_k (fun gH et => ?_)
       refine reg_seq (I := I6_ w w3 w9 ah ag dY) (ps := [VB (decide (aa = 8)), VB (decide (aa = 8))]) (by kernel_rfl) ?_ ?_ rfl hS ⟨bl.1, bl.2.1, bl.2.2.1, bl.2.2.2.1, bl.2.2.2.2.1, (bR dY)⟩ ?_ ?_
       ·exact bs6
       ·exact .v (.v (.nil))
       ·refine .on rfl (fun a w hS hI hp => does_val (x_bin rfl (hS.get 1 rfl) (rfl) (b_eql _ _ _ _ _ _)) rfl) ?_
        refine .asg 0 rfl rfl rfl ?_
        exact .nil
       clear hS
       intro f9 dZ hS bm hp
       replace hS := ((((hS.nil).cons (hS.get 4 rfl)).cons (hS.get 3 rfl)).cons (hS.get 2 rfl)).cons (hS.get 1 rfl)
       have av : sl _ 61 = .bool (decide (aa = 8)) := hp 1 (by decide)
       have hS := hS.cons av
       clear hp av
       refine et _ _ ?_
       refine wp_cond_false ((hS.get 0 rfl).trans (bF (decide_eq_false aw))) ?_
       refine wp_seq_k (fun gI eu => ?_)
       refine reg_seq (I := I6_ w w3 w9 ah ag dZ) (ps := [VB (decide (aa = 9)), VB (decide (aa = 9))]) (by kernel_rfl) ?_ ?_ rfl hS ⟨bm.1, bm.2.1, bm.2.2.1, bm.2.2.2.1, bm.2.2.2.2.1, (bR dZ)⟩ ?_ ?_
       ·exact bs6
       ·exact .v (.v (.nil))
       ·refine .on rfl (fun a w hS hI hp => does_val (x_bin rfl (hS.get 1 rfl) (rfl) (b_eql _ _ _ _ _ _)) rfl) ?_
        refine .asg 0 rfl rfl rfl ?_
        exact .nil
       clear hS
       intro ga d0 hS bn hp
       replace hS := ((((hS.nil).cons (hS.get 4 rfl)).cons (hS.get 3 rfl)).cons (hS.get 2 rfl)).cons (hS.get 1 rfl)
       have aB : sl _ 63 = .bool (decide (aa = 9)) := hp 1 (by decide)
       have hS := hS.cons aB
       clear hp aB
       refine eu _ _ ?_
       refine wp_cond_false ((hS.get 0 rfl).trans (bF (decide_eq_false aC))) ?_
       refine wp_seq_k (fun gJ ev => ?_)
       refine reg_seq (I := I6_ w w3 w9 ah ag d0) (ps := [VB (decide (aa = 13)), VB (decide (aa = 13))]) (by kernel_rfl) ?_ ?_ rfl hS ⟨bn.1, bn.2.1, bn.2.2.1, bn.2.2.2.1, bn.2.2.2.2.1, (bR d0)⟩ ?_ ?_
       ·exact bs6
       ·exact .v (.v (.nil))
       ·refine .on rfl (fun a w hS hI hp => does_val (x_bin rfl (hS.get 1 rfl) (rfl) (b_eql _ _ _ _ _ _)) rfl) ?_
        refine .asg 0 rfl rfl rfl ?_
        exact .nil
       clear hS
       intro gb h1 hS bo hp
       replace hS := (((hS.nil).cons (hS.get 4 rfl)).cons (hS.get 3 rfl)).cons (hS.get 2 rfl)
       have bz : sl _ 65 = .bool (decide (aa = 13)) := hp 1 (by decide)
       have hS := hS.cons bz
       clear hp bz
       refine ev _ _ ?_
       refine wp_cond_false ((hS.get 0 rfl).trans (bF (decide_eq_false bt))) ?_
       refine wp_skip ?_
       (try simp only [Exit.then, Exit.inBlock, reduceIte])
       exact ⟨by trivial, (((hS.nil).cons ((hS.get 1 rfl).trans (congrArg (Value.int .u8) (by simp only [if_neg ap, if_neg ar, if_neg aw, if_neg aC, if_neg bt])))).cons (hS.get 2 rfl)).cons (hS.get 3 rfl), bo.1, bo.2.1, bo.2.2.1, bo.2.2.2.1, bo.2.2.2.2.1⟩
 rintro hd gc br ⟨rfl, hS, cf, bW, bX, bU, d7⟩
 (try simp only [Exit.then, Exit.inBlock, reduceIte])
 refine e2 _ _ ?_
 refine wp_seq_k (fun gK ew => ?_)
 refine reg_seq_tail 6 (I := I5_ w w3 w9 ah br) (ps := [IsV (.slice bu (((((((([IntKind.u8.wrap aa, 18] ++ ac : List Int) ++ [IntKind.u8.wrap ab, 0] : List Int) ++ ae : List Int) ++ af : List Int) ++ [0, 0, 0, 0] : List Int) ++ aj : List Int) ++ ao : List Int).length) bv), IsV (.int .u8 (if aa = 0 then 0 else (if aa = 1 then 1 else (if aa = 8 then 2 else (if aa = 9 then 3 else (if aa = 13 then 4 else 5)))))), VP g4 7, VI ak, IsV (.int .u8 (IntKind.u8.wrap ak)), IsR (Kd.int .u8) 5 br.heap.size [(if aa = 0 then 0 else (if aa = 1 then 1 else (if aa = 8 then 2 else (if aa = 9 then 3 else (if aa = 13 then 4 else 5))))), IntKind.u8.wrap ak]]) (by kernel_rfl) ?_ ?_ rfl hS ⟨cf, bW, bX, bU, (bR br)⟩ ?_ ?_
 ·exact bs5
 ·exact .v (.v (.v (.v (.v (.cons (Stays.r _ _ _ _) (.nil))))))
 ·refine .ms 1 rfl rfl rfl ?_
  refine .ms 2 rfl rfl rfl ?_
  refine .on rfl (fun a w hS hI hp => does_val (x_fieldE (b := 0) rfl (hS.get 0 rfl) Try.underlying28 rfl rfl (by kernel_rfl)) rfl) ?_
  refine .on rfl (fun a w hS hI hp => does_val (x_load1 (d := .int .i64) rfl (hp.V 2 rfl rfl) (by kernel_rfl) rfl ((blk_cell (((hI.2.1).block g4 (blk_lt ad)).trans ad) 7).trans rfl)) rfl) ?_
  refine .on rfl (fun a w hS hI hp => does_val (x_convI rfl (by kernel_rfl) (by kernel_rfl) (hp.V 3 rfl rfl)) rfl) ?_
  refine .on rfl (fun a w hS hI hp => does_lit br.heap.size 36 5 2 _ [(0, .int .u8 (if aa = 0 then 0 else (if aa = 1 then 1 else (if aa = 8 then 2 else (if aa = 9 then 3 else (if aa = 13 then 4 else 5)))))), (1, .int .u8 (IntKind.u8.wrap ak))] [(if aa = 0 then 0 else (if aa = 1 then 1 else (if aa = 8 then 2 else (if aa = 9 then 3 else (if aa = 13 then 4 else 5))))), IntKind.u8.wrap ak] rfl (by kernel_rfl) (by rw [Array.toList_map]; exact (show [(0, a.eval (.tmp 68)), (1, a.eval (.tmp 71))] = _ from (li_cons (hp.V 1 rfl rfl) (li_cons (hp.V 4 rfl rfl) rfl)))) (by kernel_rfl) rfl (hI.2.2.2.2).size (Nat.le_of_ble_eq_true rfl)) ?_
  exact .nil
 clear hS
 intro gd cP hS cR hp
 replace hS := hS.nil
 have du : sl _ 67 = .slice bu (((((((([IntKind.u8.wrap aa, 18] ++ ac : List Int) ++ [IntKind.u8.wrap ab, 0] : List Int) ++ ae : List Int) ++ af : List Int) ++ [0, 0, 0, 0] : List Int) ++ aj : List Int) ++ ao : List Int).length) bv := hp 0 (by decide)
 obtain ⟨eN, eT, cO, gi, ex⟩ := Kd.R_reads (show Kd.R (Kd.int .u8) 5 cP br.heap.size (fun _ => True) (sl _ 72) [(if aa = 0 then 0 else (if aa = 1 then 1 else (if aa = 8 then 2 else (if aa = 9 then 3 else (if aa = 13 then 4 else 5))))), IntKind.u8.wrap ak] from hp 5 (by decide))
 have gk : Kd.R (Kd.int .u8) 5 cP br.heap.size (fun _ => True) (.slice eN [(if aa = 0 then 0 else (if aa = 1 then 1 else (if aa = 8 then 2 else (if aa = 9 then 3 else (if aa = 13 then 4 else 5))))), IntKind.u8.wrap ak].length eT) [(if aa = 0 then 0 else (if aa = 1 then 1 else (if aa = 8 then 2 else (if aa = 9 then 3 else (if aa = 13 then 4 else 5))))), IntKind.u8.wrap ak] := cO ▸ (hp 5 (by decide))
 have hS := hS.cons du
 have hS := hS.cons cO
 clear hp du cO
 show wpList _ _ _ [_, _] _ _
 refine list_step rfl (does_more (W := w9) (.tmp 67) (.tmp 72) 36 5 1 rfl (by kernel_rfl) (by kernel_rfl) (by decide) _ ((((((([IntKind.u8.wrap aa, 18] ++ ac : List Int) ++ [IntKind.u8.wrap ab, 0] : List Int) ++ ae : List Int) ++ af : List Int) ++ [0, 0, 0, 0] : List Int) ++ aj : List Int) ++ ao : List Int) [(if aa = 0 then 0 else (if aa = 1 then 1 else (if aa = 8 then 2 else (if aa = 9 then 3 else (if aa = 13 then 4 else 5))))), IntKind.u8.wrap ak] _ _ (hS.get 1 rfl) (hS.get 0 rfl) (Kd.R_below fj cR.2.2.2.1) (Kd.C_below ex (bR cP)) cR.2.2.1 dk) ?_
 rintro gl fs ⟨hb, hr, hk⟩
 clear hk
 have cg := below_step al.1 hb
 have bY := below_step al.2 hb
 have bZ := hb
 replace hS := hS.nil
 obtain ⟨bp, bq, rfl, gj, gg⟩ := Kd.R_reads hr
 have ey := hr
 clear hr
 refine hS.next (v := .slice bp ((((((((([IntKind.u8.wrap aa, 18] ++ ac : List Int) ++ [IntKind.u8.wrap ab, 0] : List Int) ++ ae : List Int) ++ af : List Int) ++ [0, 0, 0, 0] : List Int) ++ aj : List Int) ++ ao : List Int) ++ [(if aa = 0 then 0 else (if aa = 1 then 1 else (if aa = 8 then 2 else (if aa = 9 then 3 else (if aa = 13 then 4 else 5))))), IntKind.u8.wrap ak] : List Int).length) bq) (d := 73) rfl (by decide) (by rfl) ?_
 clear hS
 intro ge hS
 refine list_step rfl (R := fun v w' => Below _ _ w' ∧ (IsV (.slice bp ((((((((([IntKind.u8.wrap aa, 18] ++ ac : List Int) ++ [IntKind.u8.wrap ab, 0] : List Int) ++ ae : List Int) ++ af : List Int) ++ [0, 0, 0, 0] : List Int) ++ aj : List Int) ++ ao : List Int) ++ [(if aa = 0 then 0 else (if aa = 1 then 1 else (if aa = 8 then 2 else (if aa = 9 then 3 else (if aa = 13 then 4 else 5))))), IntKind.u8.wrap ak] : List Int).length) bq)) v w') (does_val (x_assign rfl (hS.get 0 rfl)) rfl) ?_
 rintro ez h2 ⟨hb, he⟩
 have ch := below_step cg hb
 have eB := below_step bY hb
 have eC := below_step bZ hb
 have bC := below_step (bR fs) hb
 obtain rfl : ez = .slice bp ((((((((([IntKind.u8.wrap aa, 18] ++ ac : List Int) ++ [IntKind.u8.wrap ab, 0] : List Int) ++ ae : List Int) ++ af : List Int) ++ [0, 0, 0, 0] : List Int) ++ aj : List Int) ++ ao : List Int) ++ [(if aa = 0 then 0 else (if aa = 1 then 1 else (if aa = 8 then 2 else (if aa = 9 then 3 else (if aa = 13 then 4 else 5))))), IntKind.u8.wrap ak] : List Int).length) bq := he
 refine hS.next (v := .slice bp ((((((((([IntKind.u8.wrap aa, 18] ++ ac : List Int) ++ [IntKind.u8.wrap ab, 0] : List Int) ++ ae : List Int) ++ af : List Int) ++ [0, 0, 0, 0] : List Int) ++ aj : List Int) ++ ao : List Int) ++ [(if aa = 0 then 0 else (if aa = 1 then 1 else (if aa = 8 then 2 else (if aa = 9 then 3 else (if aa = 13 then 4 else 5))))), IntKind.u8.wrap ak] : List Int).length) bq) (d := 4) rfl (by decide) (by rfl) ?_
 clear hS
 intro gf hS
 refine wpList_nil ?_
 refine ew _ _ ?_
 refine wp_ret ?_
 (try simp only [Exit.then, Exit.inBlock, Exit.jump, Exit.noGoto])
 exact bodyPost_ret (v := .slice bp ((((((((([IntKind.u8.wrap aa, 18] ++ ac : List Int) ++ [IntKind.u8.wrap ab, 0] : List Int) ++ ae : List Int) ++ af : List Int) ++ [0, 0, 0, 0] : List Int) ++ aj : List Int) ++ ao : List Int) ++ [(if aa = 0 then 0 else (if aa = 1 then 1 else (if aa = 8 then 2 else (if aa = 9 then 3 else (if aa = 13 then 4 else 5))))), IntKind.u8.wrap ak] : List Int).length) bq) (results_single rfl (Vals.at (hS.get 0 rfl) .nil)) hS.nodef ⟨.slice bp ((((((((([IntKind.u8.wrap aa, 18] ++ ac : List Int) ++ [IntKind.u8.wrap ab, 0] : List Int) ++ ae : List Int) ++ af : List Int) ++ [0, 0, 0, 0] : List Int) ++ aj : List Int) ++ ao : List Int) ++ [(if aa = 0 then 0 else (if aa = 1 then 1 else (if aa = 8 then 2 else (if aa = 9 then 3 else (if aa = 13 then 4 else 5))))), IntKind.u8.wrap ak] : List Int).length) bq, rfl, Kd.R_lower (Kd.R_below ey bC) (al.1).size, ch⟩
def carillonref02_Put.f (k : Nat) (a0 : Int) : Option (List Int) := (carillonref02_May.f a0).bind fun t177 => (if t177 = true then ((carillonref01_Put.f k (wrap64 (Int.tdiv a0 1000000000)) 6).bind fun t178 => ((carillonref01_Put.f k (Int.tmod a0 1000000000) 4).bind fun t181 => (if t178.length + t181.length < 140737488355328 then (some (t178 ++ t181)) else (none)))) else ((carillonref01_Put.f k ((0 : Int) / 1000000000) 6).bind fun t187 => ((carillonref01_Put.f k ((0 : Int) % 1000000000) 4).bind fun t190 => (if t187.length + t190.length < 140737488355328 then (some (t187 ++ t190)) else (none)))))
set_option maxHeartbeats 8000000 in
set_option maxRecDepth 100000 in
theorem carillonref02_Put.calls (k : Nat) (a0 : Int) (r : List Int) (w : World) (h : carillonref02_Put.f k a0 = some r) :
    Calls Try.prog 56 #[.int .i64 a0] w fun e w' => ∃ v0_ : Value, e = .returned (v0_) ∧ Kd.R (Kd.int .u8) 5 w' w.heap.size (fun _ => True) v0_ r ∧ Below w.heap.size w w' := by
  have HB := Aside0.mk (Below.refl w.heap.size w)
  have H : ((carillonref02_May.f a0).bind fun t177 => (if t177 = true then ((carillonref01_Put.f k (wrap64 (Int.tdiv a0 1000000000)) 6).bind fun t178 => ((carillonref01_Put.f k (Int.tmod a0 1000000000) 4).bind fun t181 => (if t178.length + t181.length < 140737488355328 then (some (t178 ++ t181)) else (none)))) else ((carillonref01_Put.f k ((0 : Int) / 1000000000) 6).bind fun t187 => ((carillonref01_Put.f k ((0 : Int) % 1000000000) 4).bind fun t190 => (if t187.length + t190.length < 140737488355328 then (some (t187 ++ t190)) else (none)))))) = some r := h
  clear h
  replace H := Option.bind_eq_some_iff.mp H
  obtain ⟨t177, A20, H⟩ := H
  replace H : (if t177 = true then ((carillonref01_Put.f k (wrap64 (Int.tdiv a0 1000000000)) 6).bind fun t178 => ((carillonref01_Put.f k (Int.tmod a0 1000000000) 4).bind fun t181 => (if t178.length + t181.length < 140737488355328 then (some (t178 ++ t181)) else (none)))) else ((carillonref01_Put.f k ((0 : Int) / 1000000000) 6).bind fun t187 => ((carillonref01_Put.f k ((0 : Int) % 1000000000) 4).bind fun t190 => (if t187.length + t190.length < 140737488355328 then (some (t187 ++ t190)) else (none))))) = some r := H
  have A2 := Aside0.mk A20
  clear A20
  by_cases c3 : t177 = true
  · subst c3
    have H1 : ((carillonref01_Put.f k (wrap64 (Int.tdiv a0 1000000000)) 6).bind fun t178 => ((carillonref01_Put.f k (Int.tmod a0 1000000000) 4).bind fun t181 => (if t178.length + t181.length < 140737488355328 then (some (t178 ++ t181)) else (none)))) = some r := by rw [if_pos rfl] at H; exact H
    clear H
    have H := H1
    clear H1
    replace H := Option.bind_eq_some_iff.mp H
    obtain ⟨t178, A40, H⟩ := H
    replace H : ((carillonref01_Put.f k (Int.tmod a0 1000000000) 4).bind fun t181 => (if t178.length + t181.length < 140737488355328 then (some (t178 ++ t181)) else (none))) = some r := H
    have A4 := Aside0.mk A40
    clear A40
    replace H := Option.bind_eq_some_iff.mp H
    obtain ⟨t181, A50, H⟩ := H
    replace H : (if t178.length + t181.length < 140737488355328 then (some (t178 ++ t181)) else (none)) = some r := H
    have A5 := Aside0.mk A50
    clear A50
    by_cases c6 : t178.length + t181.length < 140737488355328
    · rw [if_pos c6] at H
      have LMc6 := Aside0.mk c6
      clear c6
      obtain ⟨y184, hy184⟩ : ∃ y_ : List Int, y_ = (t178 ++ t181) := ⟨_, rfl⟩
      replace H : (some y184) = some r := by first | (rw [hy184]; with_reducible exact H) | (have H2_ := (Option.bind_some _ _).symm.trans H; rw [hy184]; with_reducible exact H2_) | (have H2_ := (Option.bind_some _ _).symm.trans H; with_reducible exact H2_) | with_reducible exact H | (rw [hy184]; exact H) | exact H
      have Ny184 := Aside0.mk hy184
      clear hy184
      obtain rfl := Option.some.inj H
      go_enter Try.func56, Try.ntmps56
      go_wp2_with (first | ((with_reducible refine gate_callee (f := 50) rfl ?_); refine goesL_ (some 4) rfl rfl Try.func50 (by kernel_rfl) rfl #[.int .i64 a0] rfl (by (try simp only [List.map_toArray, List.map_cons, List.map_nil]); first | done | rfl | (simp only [List.length_drop, List.length_take]; rfl)) ?_; (with_reducible refine (carillonref02_May.calls a0 true _ A2.out).mono ?_); rintro e w' ⟨rfl, ⟨nd, rfl⟩⟩; refine ⟨_, rfl, ?_⟩) | ((with_reducible refine gate_callee (f := 47) rfl ?_); refine goesL_ (some 8) rfl rfl Try.func47 (by kernel_rfl) rfl #[.int .i64 (wrap64 (Int.tdiv a0 1000000000)), .int .i64 6] rfl (by (try simp only [List.map_toArray, List.map_cons, List.map_nil]); first | done | rfl | (simp only [List.length_drop, List.length_take]; rfl)) ?_; (with_reducible refine (carillonref01_Put.calls k (wrap64 (Int.tdiv a0 1000000000)) 6 t178 _ A4.out).mono ?_); rintro e w7 ⟨v179, rfl, ho0, hb⟩; refine ⟨_, rfl, ?_⟩; have n0_ := Aside0.mk (Kd.R_lower ho0 (below_size (by repeat (first | (with_reducible first | exact HB.out | apply below_alloc | apply pw_below_drewN | apply below_drew1) | exact HB.out)))); have n1_ := Aside0.mk (below_step (by repeat (first | (with_reducible first | exact HB.out | apply below_alloc | apply pw_below_drewN | apply below_drew1) | exact HB.out)) hb); clear HB; have HO180 := n0_; have HB := n1_; clear n0_ n1_; (try clear hb); (try clear hb2); (try clear hk); (try clear hi); (try clear ho0)) | ((with_reducible refine gate_callee (f := 47) rfl ?_); refine goesL_ (some 11) rfl rfl Try.func47 (by kernel_rfl) rfl #[.int .i64 (Int.tmod a0 1000000000), .int .i64 4] rfl (by (try simp only [List.map_toArray, List.map_cons, List.map_nil]); first | done | rfl | (simp only [List.length_drop, List.length_take]; rfl)) ?_; (with_reducible refine (carillonref01_Put.calls k (Int.tmod a0 1000000000) 4 t181 _ A5.out).mono ?_); rintro e w8 ⟨v182, rfl, ho0, hb⟩; refine ⟨_, rfl, ?_⟩; have n0_ := Aside0.mk (Kd.R_elder' (by (with_reducible repeat (first | apply Kd.R_alloc | apply Kd.R_drewN | apply Kd.R_drew)); exact HO180.out) (Kd.R_base ho0) hb); have n1_ := Aside0.mk (Kd.R_lower (Kd.R_new' ho0 (Kd.R_lt (by (with_reducible repeat (first | apply Kd.R_alloc | apply Kd.R_drewN | apply Kd.R_drew)); exact HO180.out))) (below_size (by repeat (first | (with_reducible first | exact HB.out | apply below_alloc | apply pw_below_drewN | apply below_drew1) | exact HB.out)))); have n2_ := Aside0.mk (below_step (by repeat (first | (with_reducible first | exact HB.out | apply below_alloc | apply pw_below_drewN | apply below_drew1) | exact HB.out)) hb); clear HO180; clear HB; have HO180 := n0_; have HO183 := n1_; have HB := n2_; clear n0_ n1_ n2_; (try clear hb); (try clear hb2); (try clear hk); (try clear hi); (try clear ho0); obtain ⟨Ao10, co10, eo10⟩ := Kd.R_slice HO183.out; subst eo10) | ((with_reducible refine gate_builtin (b := .append) (xs := #[.tmp 8, .tmp 11]) rfl ?_); at_builtin; refine Kd.R_append_rows (Kd.int .u8) (w0 := w) w.heap.size rfl (.tmp 8) (.tmp 11) 36 5 (.int .u8 0) 1 rfl Try.underlying36 info5 rfl (by decide) (by omega) v179 t178 t181 _ _ _ (fun k_ => some k_ ≠ (.slice Ao10 t181.length co10 : Value).ownBlock) (fun _ => False) rfl rfl ?aO ?aR (fun _ _ h => h) (fun _ h => h.elim) ?aF ?aB ?aS ?aL ?_; (case aR => repeat (first | exact (Kd.R_reads' HO183.out).2.2 | (with_reducible refine Kd.C_alloc ?_ _) | (with_reducible refine Kd.C_drewN ?_ _) | (with_reducible refine Kd.C_drew ?_))); (case aB => exact (by repeat (first | (with_reducible first | exact HB.out | apply below_alloc | apply pw_below_drewN | apply below_drew1) | exact HB.out))); (case aF => exact (fun k_ hk => Kd.fresh' (Kd.R_lt (by (with_reducible repeat (first | apply Kd.R_alloc | apply Kd.R_drewN | apply Kd.R_drew)); exact HO183.out)) k_ hk)); (case aO => exact (by (with_reducible repeat (first | apply Kd.R_alloc | apply Kd.R_drewN | apply Kd.R_drew)); exact Kd.R_mono HO180.out (fun _ hk => hk.2))); (case aS => exact (below_size (by repeat (first | (with_reducible first | exact HB.out | apply below_alloc | apply pw_below_drewN | apply below_drew1) | exact HB.out)))); (case aL => have := LMc6.out; omega); intro v185 w9 ho hb hg hat; rw [← Ny184.out] at ho; have n0_ := Aside0.mk (Kd.R_after (ok := (fun _ => True)) (by (with_reducible repeat (first | apply Kd.R_alloc | apply Kd.R_drewN | apply Kd.R_drew)); exact HO183.out) hg hat); have n1_ := Aside0.mk (hb); have n2_ := Aside0.mk (ho); clear HO183; clear HB; clear HO180; have HO183 := n0_; have HB := n1_; have HO186 := n2_; clear n0_ n1_ n2_; clear ho hb hg hat))
      all_goals
        go_ret
        exact ⟨_, by first | rfl | (simp [errW_none, errW_some] <;> rfl) | (simp [*, errW_none, errW_some] <;> rfl), by (with_reducible repeat (first | apply Kd.R_alloc | apply Kd.R_drewN | apply Kd.R_drew)); exact Kd.R_mono HO186.out (fun _ hk => trivial), by repeat (first | (with_reducible first | exact HB.out | apply below_alloc | apply pw_below_drewN | apply below_drew1) | exact HB.out)⟩
    · rw [if_neg c6] at H
      exact absurd H (by simp)
  · replace c3 := Bool.eq_false_iff.mpr c3
    subst c3
    have H1 : ((carillonref01_Put.f k ((0 : Int) / 1000000000) 6).bind fun t187 => ((carillonref01_Put.f k ((0 : Int) % 1000000000) 4).bind fun t190 => (if t187.length + t190.length < 140737488355328 then (some (t187 ++ t190)) else (none)))) = some r := by rw [if_neg (show ¬ (false = true) by decide)] at H; exact H
    clear H
    have H := H1
    clear H1
    replace H := Option.bind_eq_some_iff.mp H
    obtain ⟨t187, A110, H⟩ := H
    replace H : ((carillonref01_Put.f k ((0 : Int) % 1000000000) 4).bind fun t190 => (if t187.length + t190.length < 140737488355328 then (some (t187 ++ t190)) else (none))) = some r := H
    have A11 := Aside0.mk A110
    clear A110
    replace H := Option.bind_eq_some_iff.mp H
    obtain ⟨t190, A120, H⟩ := H
    replace H : (if t187.length + t190.length < 140737488355328 then (some (t187 ++ t190)) else (none)) = some r := H
    have A12 := Aside0.mk A120
    clear A120
    by_cases c13 : t187.length + t190.length < 140737488355328
    · rw [if_pos c13] at H
      have LMc13 := Aside0.mk c13
      clear c13
      obtain ⟨y193, hy193⟩ : ∃ y_ : List Int, y_ = (t187 ++ t190) := ⟨_, rfl⟩
      replace H : (some y193) = some r := by first | (rw [hy193]; with_reducible exact H) | (have H2_ := (Option.bind_some _ _).symm.trans H; rw [hy193]; with_reducible exact H2_) | (have H2_ := (Option.bind_some _ _).symm.trans H; with_reducible exact H2_) | with_reducible exact H | (rw [hy193]; exact H) | exact H
      have Ny193 := Aside0.mk hy193
      clear hy193
      obtain rfl := Option.some.inj H
      go_enter Try.func56, Try.ntmps56
      go_wp2_with (first | ((with_reducible refine gate_callee (f := 50) rfl ?_); refine goesL_ (some 4) rfl rfl Try.func50 (by kernel_rfl) rfl #[.int .i64 a0] rfl (by (try simp only [List.map_toArray, List.map_cons, List.map_nil]); first | done | rfl | (simp only [List.length_drop, List.length_take]; rfl)) ?_; (with_reducible refine (carillonref02_May.calls a0 false _ A2.out).mono ?_); rintro e w' ⟨rfl, ⟨nd, rfl⟩⟩; refine ⟨_, rfl, ?_⟩) | ((with_reducible refine gate_callee (f := 47) rfl ?_); refine goesL_ (some 8) rfl rfl Try.func47 (by kernel_rfl) rfl #[.int .i64 ((0 : Int) / 1000000000), .int .i64 6] rfl (by (try simp only [List.map_toArray, List.map_cons, List.map_nil]); first | done | rfl | (simp only [List.length_drop, List.length_take]; rfl)) ?_; (with_reducible refine (carillonref01_Put.calls k ((0 : Int) / 1000000000) 6 t187 _ A11.out).mono ?_); rintro e w14 ⟨v188, rfl, ho0, hb⟩; refine ⟨_, rfl, ?_⟩; have n0_ := Aside0.mk (Kd.R_lower ho0 (below_size (by repeat (first | (with_reducible first | exact HB.out | apply below_alloc | apply pw_below_drewN | apply below_drew1) | exact HB.out)))); have n1_ := Aside0.mk (below_step (by repeat (first | (with_reducible first | exact HB.out | apply below_alloc | apply pw_below_drewN | apply below_drew1) | exact HB.out)) hb); clear HB; have HO189 := n0_; have HB := n1_; clear n0_ n1_; (try clear hb); (try clear hb2); (try clear hk); (try clear hi); (try clear ho0)) | ((with_reducible refine gate_callee (f := 47) rfl ?_); refine goesL_ (some 11) rfl rfl Try.func47 (by kernel_rfl) rfl #[.int .i64 ((0 : Int) % 1000000000), .int .i64 4] rfl (by (try simp only [List.map_toArray, List.map_cons, List.map_nil]); first | done | rfl | (simp only [List.length_drop, List.length_take]; rfl)) ?_; (with_reducible refine (carillonref01_Put.calls k ((0 : Int) % 1000000000) 4 t190 _ A12.out).mono ?_); rintro e w15 ⟨v191, rfl, ho0, hb⟩; refine ⟨_, rfl, ?_⟩; have n0_ := Aside0.mk (Kd.R_elder' (by (with_reducible repeat (first | apply Kd.R_alloc | apply Kd.R_drewN | apply Kd.R_drew)); exact HO189.out) (Kd.R_base ho0) hb); have n1_ := Aside0.mk (Kd.R_lower (Kd.R_new' ho0 (Kd.R_lt (by (with_reducible repeat (first | apply Kd.R_alloc | apply Kd.R_drewN | apply Kd.R_drew)); exact HO189.out))) (below_size (by repeat (first | (with_reducible first | exact HB.out | apply below_alloc | apply pw_below_drewN | apply below_drew1) | exact HB.out)))); have n2_ := Aside0.mk (below_step (by repeat (first | (with_reducible first | exact HB.out | apply below_alloc | apply pw_below_drewN | apply below_drew1) | exact HB.out)) hb); clear HO189; clear HB; have HO189 := n0_; have HO192 := n1_; have HB := n2_; clear n0_ n1_ n2_; (try clear hb); (try clear hb2); (try clear hk); (try clear hi); (try clear ho0); obtain ⟨Ao17, co17, eo17⟩ := Kd.R_slice HO192.out; subst eo17) | ((with_reducible refine gate_builtin (b := .append) (xs := #[.tmp 8, .tmp 11]) rfl ?_); at_builtin; refine Kd.R_append_rows (Kd.int .u8) (w0 := w) w.heap.size rfl (.tmp 8) (.tmp 11) 36 5 (.int .u8 0) 1 rfl Try.underlying36 info5 rfl (by decide) (by omega) v188 t187 t190 _ _ _ (fun k_ => some k_ ≠ (.slice Ao17 t190.length co17 : Value).ownBlock) (fun _ => False) rfl rfl ?aO ?aR (fun _ _ h => h) (fun _ h => h.elim) ?aF ?aB ?aS ?aL ?_; (case aR => repeat (first | exact (Kd.R_reads' HO192.out).2.2 | (with_reducible refine Kd.C_alloc ?_ _) | (with_reducible refine Kd.C_drewN ?_ _) | (with_reducible refine Kd.C_drew ?_))); (case aB => exact (by repeat (first | (with_reducible first | exact HB.out | apply below_alloc | apply pw_below_drewN | apply below_drew1) | exact HB.out))); (case aF => exact (fun k_ hk => Kd.fresh' (Kd.R_lt (by (with_reducible repeat (first | apply Kd.R_alloc | apply Kd.R_drewN | apply Kd.R_drew)); exact HO192.out)) k_ hk)); (case aO => exact (by (with_reducible repeat (first | apply Kd.R_alloc | apply Kd.R_drewN | apply Kd.R_drew)); exact Kd.R_mono HO189.out (fun _ hk => hk.2))); (case aS => exact (below_size (by repeat (first | (with_reducible first | exact HB.out | apply below_alloc | apply pw_below_drewN | apply below_drew1) | exact HB.out)))); (case aL => have := LMc13.out; omega); intro v194 w16 ho hb hg hat; rw [← Ny193.out] at ho; have n0_ := Aside0.mk (Kd.R_after (ok := (fun _ => True)) (by (with_reducible repeat (first | apply Kd.R_alloc | apply Kd.R_drewN | apply Kd.R_drew)); exact HO192.out) hg hat); have n1_ := Aside0.mk (hb); have n2_ := Aside0.mk (ho); clear HO192; clear HB; clear HO189; have HO192 := n0_; have HB := n1_; have HO195 := n2_; clear n0_ n1_ n2_; clear ho hb hg hat))
      all_goals
        go_ret
        exact ⟨_, by first | rfl | (simp [errW_none, errW_some] <;> rfl) | (simp [*, errW_none, errW_some] <;> rfl), by (with_reducible repeat (first | apply Kd.R_alloc | apply Kd.R_drewN | apply Kd.R_drew)); exact Kd.R_mono HO195.out (fun _ hk => trivial), by repeat (first | (with_reducible first | exact HB.out | apply below_alloc | apply pw_below_drewN | apply below_drew1) | exact HB.out)⟩
    · rw [if_neg c13] at H
      exact absurd H (by simp)
end Go.Proofs.Ytiomlbkakiienaa.P
