/- Functions and loops of the given program as Lean functions, and that the code comes to what they say: written by this session's own program; Lean checks it. -/
import Derived.Test.YtiomlbkakiienaaZzPx0
import Derived.Test.YtiomlbkakiienaaZzPx1
import Derived.Test.YtiomlbkakiienaaZzPx2
namespace Go.Proofs.Ytiomlbkakiienaa.P
open Go.RowKit Go.Proofs.YtiomlbkakiienaaW.PrintWords Go.Proofs.YtiomlbkakiienaaW.PrintLast Go.Proofs.YtiomlbkakiienaaW.PrintMore
attribute [local go_sem] max2_int min2_int max_two min_two max_three min_three max_four min_four   -- for this text's walks alone
set_option linter.unusedVariables false
set_option linter.unusedSimpArgs false
def quality_Put.f (l0 : List Int) (a1_0 : Int) (a1_1 : Int) (a1_2 : Int) : Option (List Int) := (octets_Put.f l0 a1_0 1).bind fun t128 => ((octets_Put.f t128 a1_1 1).bind fun t131 => ((octets_Put.f t131 a1_2 2).bind fun t134 => (some t134)))
def quality_Put.T1 : Bool × List (List Nat × List Nat) := (true, [([], []), ([], []), ([1], [1]), ([0, 2], [0, 2]), ([], []), ([4], [4]), ([3, 5, 3], [3, 5]), ([], []), ([7], [7]), ([6, 8, 6], [6, 8]), ([9, 9, 0, 1, 2, 3, 4, 5, 6, 7, 8, 9], [9])])
def quality_Put.B1 : List Nat := [0, 0, 2, 7, 0, 16, 63, 0, 128, 511, 1023]
theorem quality_Put.tab1 : rtab .any (opsOf Try.f40 1) = quality_Put.T1 := by kernel_rfl
theorem quality_Put.bits1 : waitsOk quality_Put.T1.2 quality_Put.B1 = true := by kernel_rfl
set_option maxHeartbeats 8000000 in
set_option maxRecDepth 100000 in
theorem quality_Put.calls (A0 : Option Addr) (c0 : Nat) (l0 : List Int) (a1_0 : Int) (a1_1 : Int) (a1_2 : Int) (r : List Int) (w : World) (hr0 : Kd.C (Kd.int .u8) w A0 l0.length l0) (hc0 : l0.length ≤ c0) (h : quality_Put.f l0 a1_0 a1_1 a1_2 = some r) :
    Calls Try.prog 40 #[.slice A0 l0.length c0, .agg #[.int .i64 a1_0, .int .i64 a1_1, .int .i64 a1_2]] w fun e w' => ∃ v0_ : Value, e = .returned (v0_) ∧ Kd.R (Kd.int .u8) 5 w' w.heap.size (fun _ => True) v0_ r ∧ Below w.heap.size w w' := by
  have hu26 := Try.underlying26
  have HR0 := Aside0.mk hr0
  have HC0 := Aside0.mk hc0
  clear hr0 hc0
  have HB := Aside0.mk (Below.refl w.heap.size w)
  have H : ((octets_Put.f l0 a1_0 1).bind fun t128 => ((octets_Put.f t128 a1_1 1).bind fun t131 => ((octets_Put.f t131 a1_2 2).bind fun t134 => (some t134)))) = some r := h
  clear h
  replace H := Option.bind_eq_some_iff.mp H
  obtain ⟨t128, A30, H⟩ := H
  replace H : ((octets_Put.f t128 a1_1 1).bind fun t131 => ((octets_Put.f t131 a1_2 2).bind fun t134 => (some t134))) = some r := H
  have A3 := Aside0.mk A30
  clear A30
  replace H := Option.bind_eq_some_iff.mp H
  obtain ⟨t131, A40, H⟩ := H
  replace H : ((octets_Put.f t131 a1_2 2).bind fun t134 => (some t134)) = some r := H
  have A4 := Aside0.mk A40
  clear A40
  replace H := Option.bind_eq_some_iff.mp H
  obtain ⟨t134, A50, H⟩ := H
  replace H : (some t134) = some r := H
  have A5 := Aside0.mk A50
  clear A50
  obtain rfl := Option.some.inj H
  go_enter Try.func40, Try.ntmps40
  try go_wp2_with (first | ((with_reducible refine gate_dst (N := 3) rfl ?_); refine box_event ?hg (N := 3) ?hd (cs := #[.int .i64 a1_0, .int .i64 a1_1, .int .i64 a1_2]) (t := 26) ?hr ?_; (case hd => rfl); (case hg => rfl); (case hr => first | (go_simp; done) | (go_simp; rfl)); intro gb127 hg w6 hbox hb; have n0_ := Aside0.mk (below_step (by repeat (first | (with_reducible first | exact HB.out | apply below_alloc | apply pw_below_drewN | apply below_drew1) | exact HB.out)) hb); have n1_ := Aside0.mk (hbox); have n2_ := Aside0.mk ((by rw [hg]; exact (below_size (by repeat (first | (with_reducible first | exact HB.out | apply below_alloc | apply pw_below_drewN | apply below_drew1) | exact HB.out))) : w.heap.size ≤ gb127)); have n3_ := Aside0.mk ((by rw [hg]; exact (below_size (by repeat (first | (with_reducible first | exact HB.out | apply below_alloc | apply pw_below_drewN | apply below_drew1) | exact HB.out))) : w.heap.size ≤ gb127)); clear HB; have HB := n0_; have BK127 := n1_; have GW127 := n2_; have GE127 := n3_; clear n0_ n1_ n2_ n3_; clear hb hbox hg))
  have n0_ := Aside0.mk (blk_drew BK127.out)
  have n1_ := Aside0.mk (below_drew1 HB.out)
  clear BK127
  clear HB
  have BK127 := n0_
  have HB := n1_
  clear n0_ n1_
  refine start_ (n := 11) (S := fun w' => w'.cell? ⟨gb127, 0, none⟩ = some (.int .i64 a1_0) ∧ w'.cell? ⟨gb127, 1, none⟩ = some (.int .i64 a1_1) ∧ w'.cell? ⟨gb127, 2, none⟩ = some (.int .i64 a1_2)) (ds := []) #[false, false, false, false, false, false, false, false, false, false, false] (by kernel_rfl) rfl rfl ⟨(blk_cell BK127.out 0).trans rfl, (blk_cell BK127.out 1).trans rfl, (blk_cell BK127.out 2).trans rfl⟩ (fun hHeld => ?_); refine with_tabW quality_Put.tab1 quality_Put.bits1 (fun HT_ HW_ => ?_)
  generalize w6.drew = w7 at BK127 HB hHeld ⊢
  refine pure_ (i := 0) (N := some 5) (v := ?_) (a' := ?_) #[true, false, false, false, false, false, false, false, false, false, false] rfl rfl (any_of HT_.out (by kernel_rfl)) (fun _ _ _ h => h) (Or.inl ⟨by rfl, ?_⟩) ?_ ?_
  rotate_left
  · intro w'
    go_simp
    with_reducible rfl
  rotate_left
  · simp only [Act.put, List.setIfInBounds_toArray, List.set_cons_zero, List.set_cons_succ, i64_w, i32_w]
    rfl
  refine pure_ (i := 1) (N := some 6) (v := ?_) (a' := ?_) #[true, true, false, false, false, false, false, false, false, false, false] rfl rfl (any_of HT_.out (by kernel_rfl)) (fun _ _ _ h => h) (Or.inl ⟨by rfl, ?_⟩) ?_ ?_
  rotate_left
  · intro w'
    go_simp
    with_reducible rfl
  rotate_left
  · simp only [Act.put, List.setIfInBounds_toArray, List.set_cons_zero, List.set_cons_succ, i64_w, i32_w]
    rfl
  refine pure_ (i := 4) (N := some 9) (v := ?_) (a' := ?_) #[true, true, false, false, true, false, false, false, false, false, false] rfl rfl (any_of HT_.out (by kernel_rfl)) (fun _ _ _ h => h) (Or.inl ⟨by rfl, ?_⟩) ?_ ?_
  rotate_left
  · intro w'
    go_simp
    with_reducible rfl
  rotate_left
  · simp only [Act.put, List.setIfInBounds_toArray, List.set_cons_zero, List.set_cons_succ, i64_w, i32_w]
    rfl
  refine pure_ (i := 7) (N := some 12) (v := ?_) (a' := ?_) #[true, true, false, false, true, false, false, true, false, false, false] rfl rfl (any_of HT_.out (by kernel_rfl)) (fun _ _ _ h => h) (Or.inl ⟨by rfl, ?_⟩) ?_ ?_
  rotate_left
  · intro w'
    go_simp
    with_reducible rfl
  rotate_left
  · simp only [Act.put, List.setIfInBounds_toArray, List.set_cons_zero, List.set_cons_succ, i64_w, i32_w]
    rfl
  refine take_ (i := 2) (N := some 7) (v := ?_) (a' := ?_) #[true, true, true, false, true, false, false, true, false, false, false] rfl rfl (take_ofW HT_.out HW_.out (by kernel_rfl)) (fun _ _ _ h => h) (Or.inl ⟨by rfl, ?_⟩) hHeld ?_ ?_
  rotate_left
  · rintro w' ⟨s0, s1, s2⟩
    go_simp
    with_reducible rfl
  rotate_left
  · simp only [Act.put, List.setIfInBounds_toArray, List.set_cons_zero, List.set_cons_succ, i64_w, i32_w]
    rfl
  refine take_ (i := 5) (N := some 10) (v := ?_) (a' := ?_) #[true, true, true, false, true, true, false, true, false, false, false] rfl rfl (take_ofW HT_.out HW_.out (by kernel_rfl)) (fun _ _ _ h => h) (Or.inl ⟨by rfl, ?_⟩) hHeld ?_ ?_
  rotate_left
  · rintro w' ⟨s0, s1, s2⟩
    go_simp
    with_reducible rfl
  rotate_left
  · simp only [Act.put, List.setIfInBounds_toArray, List.set_cons_zero, List.set_cons_succ, i64_w, i32_w]
    rfl
  refine take_ (i := 8) (N := some 13) (v := ?_) (a' := ?_) #[true, true, true, false, true, true, false, true, true, false, false] rfl rfl (take_ofW HT_.out HW_.out (by kernel_rfl)) (fun _ _ _ h => h) (Or.inl ⟨by rfl, ?_⟩) hHeld ?_ ?_
  rotate_left
  · rintro w' ⟨s0, s1, s2⟩
    go_simp
    with_reducible rfl
  rotate_left
  · simp only [Act.put, List.setIfInBounds_toArray, List.set_cons_zero, List.set_cons_succ, i64_w, i32_w]
    rfl
  refine one_ (i := 3) (N := some 8) #[true, true, true, true, true, true, false, true, true, false, false] rfl rfl (one_of HT_.out (by kernel_rfl)) (by decide) (fun K hK => ?_)
  refine goes_ Try.func39 (by kernel_rfl) rfl #[.slice A0 l0.length c0, .int .i64 a1_0, .int .i64 1] (by rfl) rfl rfl (by (try simp only [List.map_toArray, List.map_cons, List.map_nil]); first | done | rfl | (simp only [List.length_drop, List.length_take]; rfl)) ?_
  with_reducible refine (octets_Put.calls _ _ l0 a1_0 1 t128 _ ?side1 ?side2 A3.out).mono ?_
  (case side1 => repeat (first | exact (Kd.C_below HR0.out HB.out) | (with_reducible refine Kd.C_alloc ?_ _) | (with_reducible refine Kd.C_drewN ?_ _) | (with_reducible refine Kd.C_drew ?_)))
  (case side2 => exact HC0.out)
  rintro e w8 ⟨v129, rfl, ho0, hb⟩
  refine ⟨_, rfl, ?_⟩
  have n0_ := Aside0.mk (Kd.R_lower ho0 (below_size (by repeat (first | (with_reducible first | exact HB.out | apply below_alloc | apply pw_below_drewN | apply below_drew1 | refine below_set ?_ GE127.out) | exact HB.out))))
  have n1_ := Aside0.mk (blk_below (g := gb127) (o := .cells #[.int .i64 a1_0, .int .i64 a1_1, .int .i64 a1_2] 26 (0, 0)) (by (with_reducible repeat (first | refine blk_drewN ?_ _ | refine blk_drew ?_ | refine blk_alloc ?_ _)); exact BK127.out) hb)
  have n2_ := Aside0.mk (below_step (by repeat (first | (with_reducible first | exact HB.out | apply below_alloc | apply pw_below_drewN | apply below_drew1 | refine below_set ?_ GE127.out) | exact HB.out)) hb)
  clear BK127
  clear HB
  have HO130 := n0_
  have BK127 := n1_
  have HB := n2_
  clear n0_ n1_ n2_
  (try clear hb)
  (try clear hb2)
  (try clear hk)
  (try clear hi)
  (try clear ho0)
  obtain ⟨Ao9, co9, eo9⟩ := Kd.R_slice HO130.out
  (first | subst eo9 | (injection eo9 with f1_ f2_ f3_; have f4_ := f1_.symm; have f5_ := f3_.symm; clear f1_ f2_ f3_; subst f4_; subst f5_))
  refine hK.out _ _ ⟨(blk_cell BK127.out 0).trans rfl, (blk_cell BK127.out 1).trans rfl, (blk_cell BK127.out 2).trans rfl⟩ (fun hHeld => ?_)
  clear hK K
  refine norm_ (a' := ?_) ?_ ?_
  rotate_left
  · show Act.put _ (some 8) _ = _
    simp only [Act.put, List.setIfInBounds_toArray, List.set_cons_zero, List.set_cons_succ, i64_w, i32_w]
    rfl
  refine one_ (i := 6) (N := some 11) #[true, true, true, true, true, true, true, true, true, false, false] rfl rfl (one_of HT_.out (by kernel_rfl)) (by decide) (fun K hK => ?_)
  refine goes_ Try.func39 (by kernel_rfl) rfl #[.slice Ao9 t128.length co9, .int .i64 a1_1, .int .i64 1] (by rfl) rfl rfl (by (try simp only [List.map_toArray, List.map_cons, List.map_nil]); first | done | rfl | (simp only [List.length_drop, List.length_take]; rfl)) ?_
  with_reducible refine (octets_Put.calls _ _ t128 a1_1 1 t131 _ ?side1 ?side2 A4.out).mono ?_
  (case side1 => repeat (first | exact (Kd.R_reads' HO130.out).2.2 | (with_reducible refine Kd.C_alloc ?_ _) | (with_reducible refine Kd.C_drewN ?_ _) | (with_reducible refine Kd.C_drew ?_)))
  (case side2 => exact (Kd.R_reads' HO130.out).2.1)
  rintro e w10 ⟨v132, rfl, ho0, hb⟩
  refine ⟨_, rfl, ?_⟩
  have n0_ := Aside0.mk (Kd.R_elder' (by (with_reducible repeat (first | apply Kd.R_alloc | apply Kd.R_drewN | apply Kd.R_drew)); exact HO130.out) (Kd.R_base ho0) hb)
  have n1_ := Aside0.mk (Kd.R_lower (Kd.R_new' ho0 (Kd.R_lt (by (with_reducible repeat (first | apply Kd.R_alloc | apply Kd.R_drewN | apply Kd.R_drew)); exact HO130.out))) (below_size (by repeat (first | (with_reducible first | exact HB.out | apply below_alloc | apply pw_below_drewN | apply below_drew1 | refine below_set ?_ GE127.out) | exact HB.out))))
  have n2_ := Aside0.mk (blk_below (g := gb127) (o := .cells #[.int .i64 a1_0, .int .i64 a1_1, .int .i64 a1_2] 26 (0, 0)) (by (with_reducible repeat (first | refine blk_drewN ?_ _ | refine blk_drew ?_ | refine blk_alloc ?_ _)); exact BK127.out) hb)
  have n3_ := Aside0.mk (below_step (by repeat (first | (with_reducible first | exact HB.out | apply below_alloc | apply pw_below_drewN | apply below_drew1 | refine below_set ?_ GE127.out) | exact HB.out)) hb)
  clear HO130
  clear BK127
  clear HB
  have HO130 := n0_
  have HO133 := n1_
  have BK127 := n2_
  have HB := n3_
  clear n0_ n1_ n2_ n3_
  (try clear hb)
  (try clear hb2)
  (try clear hk)
  (try clear hi)
  (try clear ho0)
  obtain ⟨Ao11, co11, eo11⟩ := Kd.R_slice HO133.out
  (first | subst eo11 | (injection eo11 with f1_ f2_ f3_; have f4_ := f1_.symm; have f5_ := f3_.symm; clear f1_ f2_ f3_; subst f4_; subst f5_))
  refine hK.out _ _ ⟨(blk_cell BK127.out 0).trans rfl, (blk_cell BK127.out 1).trans rfl, (blk_cell BK127.out 2).trans rfl⟩ (fun hHeld => ?_)
  clear hK K
  refine norm_ (a' := ?_) ?_ ?_
  rotate_left
  · show Act.put _ (some 11) _ = _
    simp only [Act.put, List.setIfInBounds_toArray, List.set_cons_zero, List.set_cons_succ, i64_w, i32_w]
    rfl
  refine one_ (i := 9) (N := some 14) #[true, true, true, true, true, true, true, true, true, true, false] rfl rfl (one_of HT_.out (by kernel_rfl)) (by decide) (fun K hK => ?_)
  refine goes_ Try.func39 (by kernel_rfl) rfl #[.slice Ao11 t131.length co11, .int .i64 a1_2, .int .i64 2] (by rfl) rfl rfl (by (try simp only [List.map_toArray, List.map_cons, List.map_nil]); first | done | rfl | (simp only [List.length_drop, List.length_take]; rfl)) ?_
  with_reducible refine (octets_Put.calls _ _ t131 a1_2 2 t134 _ ?side1 ?side2 A5.out).mono ?_
  (case side1 => repeat (first | exact (Kd.R_reads' HO133.out).2.2 | (with_reducible refine Kd.C_alloc ?_ _) | (with_reducible refine Kd.C_drewN ?_ _) | (with_reducible refine Kd.C_drew ?_)))
  (case side2 => exact (Kd.R_reads' HO133.out).2.1)
  rintro e w12 ⟨v135, rfl, ho0, hb⟩
  refine ⟨_, rfl, ?_⟩
  have n0_ := Aside0.mk (Kd.R_elder' (by (with_reducible repeat (first | apply Kd.R_alloc | apply Kd.R_drewN | apply Kd.R_drew)); exact HO130.out) (Kd.R_base ho0) hb)
  have n1_ := Aside0.mk (Kd.R_elder' (by (with_reducible repeat (first | apply Kd.R_alloc | apply Kd.R_drewN | apply Kd.R_drew)); exact HO133.out) (Kd.R_base ho0) hb)
  have n2_ := Aside0.mk (Kd.R_lower (Kd.R_new' (Kd.R_new' ho0 (Kd.R_lt (by (with_reducible repeat (first | apply Kd.R_alloc | apply Kd.R_drewN | apply Kd.R_drew)); exact HO130.out))) (Kd.R_lt (by (with_reducible repeat (first | apply Kd.R_alloc | apply Kd.R_drewN | apply Kd.R_drew)); exact HO133.out))) (below_size (by repeat (first | (with_reducible first | exact HB.out | apply below_alloc | apply pw_below_drewN | apply below_drew1 | refine below_set ?_ GE127.out) | exact HB.out))))
  have n3_ := Aside0.mk (blk_below (g := gb127) (o := .cells #[.int .i64 a1_0, .int .i64 a1_1, .int .i64 a1_2] 26 (0, 0)) (by (with_reducible repeat (first | refine blk_drewN ?_ _ | refine blk_drew ?_ | refine blk_alloc ?_ _)); exact BK127.out) hb)
  have n4_ := Aside0.mk (below_step (by repeat (first | (with_reducible first | exact HB.out | apply below_alloc | apply pw_below_drewN | apply below_drew1 | refine below_set ?_ GE127.out) | exact HB.out)) hb)
  clear HO130
  clear HO133
  clear BK127
  clear HB
  have HO130 := n0_
  have HO133 := n1_
  have HO136 := n2_
  have BK127 := n3_
  have HB := n4_
  clear n0_ n1_ n2_ n3_ n4_
  (try clear hb)
  (try clear hb2)
  (try clear hk)
  (try clear hi)
  (try clear ho0)
  refine hK.out _ _ ⟨(blk_cell BK127.out 0).trans rfl, (blk_cell BK127.out 1).trans rfl, (blk_cell BK127.out 2).trans rfl⟩ (fun hHeld => ?_)
  clear hK K
  refine norm_ (a' := ?_) ?_ ?_
  rotate_left
  · show Act.put _ (some 14) _ = _
    simp only [Act.put, List.setIfInBounds_toArray, List.set_cons_zero, List.set_cons_succ, i64_w, i32_w]
    rfl
  refine pure_ (i := 10) (N := some 4) (v := ?_) (a' := ?_) #[true, true, true, true, true, true, true, true, true, true, true] rfl rfl (any_of HT_.out (by kernel_rfl)) (fun _ _ _ h => h) (Or.inl ⟨by rfl, ?_⟩) ?_ ?_
  rotate_left
  · intro w'
    go_simp
    with_reducible rfl
  rotate_left
  · simp only [Act.put, List.setIfInBounds_toArray, List.set_cons_zero, List.set_cons_succ, i64_w, i32_w]
    rfl
  refine done_ (done_of HT_.out (by kernel_rfl)) ?_
  try go_wp2
  all_goals
    go_ret
    exact ⟨_, by first | rfl | (simp [errW_none, errW_some] <;> rfl) | (simp [*, errW_none, errW_some] <;> rfl), by (with_reducible repeat (first | apply Kd.R_alloc | apply Kd.R_drewN | apply Kd.R_drew)); exact Kd.R_mono HO136.out (fun _ hk => trivial), by repeat (first | (with_reducible first | exact HB.out | apply below_alloc | apply pw_below_drewN | apply below_drew1 | refine below_set ?_ GE127.out) | exact HB.out)⟩
def body_Put.j3 (k : Nat) (y3_6 : List Int) : Option (List Int × Bool) := some (y3_6, true)
def body_Put.j2 (k : Nat) (x2_3_0 x2_3_1 x2_3_2 x2_3_3 x2_3_4 x2_3_5 x2_3_6 x2_3_7 x2_3_8 x2_3_9 x2_3_10 x2_3_11 x2_3_12 x2_3_13 x2_3_14 x2_3_15 x2_3_16 x2_3_17 x2_3_18 x2_3_19 x2_3_20 x2_3_21 x2_3_22 : Int) (y2_6 : List Int) : Option (List Int × Bool) := if x2_3_0 = 2 then ((ident_Put.f y2_6 0 0).bind fun t2008 => (body_Put.j3 k t2008)) else (if x2_3_0 = 11 then ((octets_Put.f y2_6 x2_3_11 2).bind fun t2012 => ((octets_Put.f t2012 0 1).bind fun t2013 => ((octets_Put.f t2013 x2_3_12 1).bind fun t2014 => ((quality_Put.f t2014 x2_3_13 x2_3_14 x2_3_15).bind fun t2021 => ((octets_Put.f t2021 x2_3_16 1).bind fun t2022 => ((octets_PutId.f t2022 x2_3_17).bind fun t2028 => ((octets_Put.f t2028 x2_3_18 2).bind fun t2029 => ((octets_Put.f t2029 x2_3_19 1).bind fun t2030 => (body_Put.j3 k t2030))))))))) else (if x2_3_0 = 13 then ((octets_Put.f y2_6 x2_3_20 1).bind fun t2015 => ((octets_Put.f t2015 x2_3_21 1).bind fun t2016 => ((octets_Put.f t2016 x2_3_22 1).bind fun t2022 => ((octets_Put.f t2022 0 1).bind fun t2023 => (body_Put.j3 k t2023))))) else (body_Put.j3 k y2_6)))
def body_Put.j1 (k : Nat) (x1_3_0 x1_3_1 x1_3_2 x1_3_3 x1_3_4 x1_3_5 x1_3_6 x1_3_7 x1_3_8 x1_3_9 x1_3_10 x1_3_11 x1_3_12 x1_3_13 x1_3_14 x1_3_15 x1_3_16 x1_3_17 x1_3_18 x1_3_19 x1_3_20 x1_3_21 x1_3_22 : Int) (y1_6 : List Int) : Option (List Int × Bool) := (body_targeted.f x1_3_0).bind fun t1003 => (if t1003 = true then ((ident_Put.f y1_6 x1_3_9 x1_3_10).bind fun t1006 => (body_Put.j2 k x1_3_0 x1_3_1 x1_3_2 x1_3_3 x1_3_4 x1_3_5 x1_3_6 x1_3_7 x1_3_8 x1_3_9 x1_3_10 x1_3_11 x1_3_12 x1_3_13 x1_3_14 x1_3_15 x1_3_16 x1_3_17 x1_3_18 x1_3_19 x1_3_20 x1_3_21 x1_3_22 t1006)) else (body_Put.j2 k x1_3_0 x1_3_1 x1_3_2 x1_3_3 x1_3_4 x1_3_5 x1_3_6 x1_3_7 x1_3_8 x1_3_9 x1_3_10 x1_3_11 x1_3_12 x1_3_13 x1_3_14 x1_3_15 x1_3_16 x1_3_17 x1_3_18 x1_3_19 x1_3_20 x1_3_21 x1_3_22 y1_6))
def body_Put.f (k : Nat) (l0 : List Int) (a1_0 a1_1 a1_2 a1_3 a1_4 a1_5 a1_6 a1_7 a1_8 a1_9 a1_10 a1_11 a1_12 a1_13 a1_14 a1_15 a1_16 a1_17 a1_18 a1_19 a1_20 a1_21 a1_22 : Int) : Option (List Int × Bool) := (body_Check.f k a1_0 a1_1 a1_2 a1_3 a1_4 a1_5 a1_6 a1_7 a1_8 a1_9 a1_10 a1_11 a1_12 a1_13 a1_14 a1_15 a1_16 a1_17 a1_18 a1_19 a1_20 a1_21 a1_22).bind fun t7 => (if t7 = true then ((body_stamped.f a1_0).bind fun t15 => (if t15 = true then ((stamp_Put.f l0 a1_8).bind fun t18 => (body_Put.j1 k a1_0 a1_1 a1_2 a1_3 a1_4 a1_5 a1_6 a1_7 a1_8 a1_9 a1_10 a1_11 a1_12 a1_13 a1_14 a1_15 a1_16 a1_17 a1_18 a1_19 a1_20 a1_21 a1_22 t18)) else (body_Put.j1 k a1_0 a1_1 a1_2 a1_3 a1_4 a1_5 a1_6 a1_7 a1_8 a1_9 a1_10 a1_11 a1_12 a1_13 a1_14 a1_15 a1_16 a1_17 a1_18 a1_19 a1_20 a1_21 a1_22 l0))) else (some (l0, false)))
abbrev body_Put.v0 (x0 x1 x2 x3 x4 x5 x6 x7 x8 x9 x10 x11 x12 x13 x14 x15 x16 x17 x18 x19 x20 x21 x22 : Int) : Value := .agg #[.int .i64 x0, .int .i64 x1, .int .i64 x2, .int .i64 x3, .int .u64 x4, .int .i64 x5, .int .i64 x6, .int .i64 x7, .int .i64 x8, .int .u64 x9, .int .i64 x10, .int .i64 x11, .int .i64 x12, .int .i64 x13, .int .i64 x14, .int .i64 x15, .int .i64 x16, .int .u64 x17, .int .i64 x18, .int .i64 x19, .int .i64 x20, .int .i64 x21, .int .i64 x22]
abbrev body_Put.c1 (x0 x1 x2 x3 x4 x5 x6 x7 x8 x9 x10 x11 x12 x13 x14 x15 x16 x17 x18 x19 x20 x21 x22 : Int) : Array Value := #[.int .i64 x0, .int .i64 x1, .int .i64 x2, .int .i64 x3, .int .u64 x4, .int .i64 x5, .int .i64 x6, .int .i64 x7, .int .i64 x8, .int .u64 x9, .int .i64 x10, .int .i64 x11, .int .i64 x12, .int .i64 x13, .int .i64 x14, .int .i64 x15, .int .i64 x16, .int .u64 x17, .int .i64 x18, .int .i64 x19, .int .i64 x20, .int .i64 x21, .int .i64 x22]
open Go.Proofs.Ytiomlbkakiienaa.E in
set_option maxHeartbeats 60000000 in
set_option maxRecDepth 100000 in
theorem body_Put.calls (k : Nat) (A0 : Option Addr) (bh : Nat) (l0 : List Int) (bi ce cf cg ch ci cj ck bj cl bB bC bD bE bG bH bI bJ bK bL bM bN bO : Int) (r1 : List Int) (r2 : Bool) (w : World) (HR0 : Kd.C (Kd.int .u8) w A0 l0.length l0) (HC0 : l0.length ≤ bh) (h : body_Put.f k l0 bi ce cf cg ch ci cj ck bj cl bB bC bD bE bG bH bI bJ bK bL bM bN bO = some (r1, r2)) :
    Calls Try.prog 20 #[.slice A0 l0.length bh, .agg #[.int .i64 bi, .int .i64 ce, .int .i64 cf, .int .i64 cg, .int .u64 ch, .int .i64 ci, .int .i64 cj, .int .i64 ck, .int .i64 bj, .int .u64 cl, .int .i64 bB, .int .i64 bC, .int .i64 bD, .int .i64 bE, .int .i64 bG, .int .i64 bH, .int .i64 bI, .int .u64 bJ, .int .i64 bK, .int .i64 bL, .int .i64 bM, .int .i64 bN, .int .i64 bO]] w fun e w' => ∃ v0_ : Value, e = .returned (.tuple #[v0_, .bool r2]) ∧ IsC (Kd.int .u8) r1 v0_ w' ∧ Below w.heap.size w w' := by
 have H := h
 clear h
 unfold body_Put.f at H
 obtain ⟨t7, eT, H⟩ := Option.bind_eq_some_iff.mp H
 refine calls_of_wp (fn := Try.f20) (by kernel_rfl) rfl ?_
 have hS := St.enter #[.slice A0 l0.length bh, (body_Put.v0 bi ce cf cg ch ci cj ck bj cl bB bC bD bE bG bH bI bJ bK bL bM bN bO)] 80 (by simp) [(0, .slice A0 l0.length bh), (1, (body_Put.v0 bi ce cf cg ch ci cj ck bj cl bB bC bD bE bG bH bI bJ bK bL bM bN bO))] (by simp)
 have eU := Below.refl w.heap.size w
 refine wp_seq_k (fun K1 ff => ?_)
 refine reg_seq (I := I1_ w) (ps := [IsB (body_Put.c1 bi ce cf cg ch ci cj ck bj cl bB bC bD bE bG bH bI bJ bK bL bM bN bO) 28 w.heap.size, IsV (.slice none 0 0), VB false]) (by kernel_rfl) ?_ ?_ rfl hS eU ?_ ?_
 ·exact bs1
 ·exact .cons (Stays.b _ _ _) (.v (.v (.nil)))
 ·refine .on rfl (fun a w hS hI hp => does_var (x_box rfl (congrArg Value.cells (hS.get 1 rfl))) (hI).size) ?_
  iterate 2 refine .on rfl (fun a w hS hI hp => does_val (x_assign rfl (rfl)) rfl) ?_
  exact .nil
 clear hS
 intro fI w3 hS fq hp
 replace hS := (hS.nil).cons (hS.get 0 rfl)
 obtain ⟨g4, eI, dl, ak⟩ := (show IsB _ 28 _ (sl _ 3) _ from hp 0 (by decide))
 have hS := hS.cons eI
 clear hp eI
 refine ff _ _ ?_
 refine wp_seq_k (fun K5 fg => ?_)
 refine wp_seq_k (fun K6 fh => ?_)
 refine reg_seq (I := I2_ w w3) (ps := [IsV ((body_Put.v0 bi ce cf cg ch ci cj ck bj cl bB bC bD bE bG bH bI bJ bK bL bM bN bO)), VB t7, VB (!t7)]) (by kernel_rfl) ?_ ?_ rfl hS ⟨fq, (bR w3)⟩ ?_ ?_
 ·exact bs2
 ·exact .v (.v (.v (.nil)))
 ·refine .on rfl (fun a w hS hI hp => does_loadrow rfl (hS.get 0 rfl) (((hI.2).block g4 (blk_lt ak)).trans ak) Try.underlying28 rfl (by kernel_rfl) rfl) ?_
  refine .on rfl (fun a w hS hI hp => does_call (by kernel_rfl) (ar1 (hp.V 0 rfl rfl)) ((body_Check.calls (w := _) (h := eT)).mono fun _ _ h => ⟨_, h.1, h.2, rfl⟩)) ?_
  refine .on rfl (fun a w hS hI hp => does_val (x_not rfl (hp.V 1 rfl rfl)) rfl) ?_
  exact .nil
 clear hS
 intro fJ w9 hS dn hp
 have eK : sl _ 9 = .bool (!t7) := hp 2 (by decide)
 have hS := hS.cons eK
 clear hp eK
 refine fh _ _ ?_
 by_cases c1 : t7 = true
 rotate_left
 ·rw [if_neg c1] at H
  simp only [Option.some.injEq, Prod.mk.injEq] at H
  obtain ⟨rfl, rfl⟩ := H
  refine wp_cond_true ((hS.get 0 rfl).trans (bT (congrArg (!·) (Bool.eq_false_iff.2 c1)))) ?_
  refine wp_seq_k (fun eV db => ?_)
  refine reg_seq (I := I3_ w w3 w9) (ps := [IsV (.slice A0 l0.length bh), IsV (.slice A0 l0.length bh), VB false]) (by kernel_rfl) ?_ ?_ rfl hS ⟨dn.1, dn.2, (bR w9)⟩ ?_ ?_
  ·exact bs3
  ·exact .v (.v (.v (.nil)))
  ·refine .ms 2 rfl rfl rfl ?_
   refine .asg 0 rfl rfl rfl ?_
   refine .on rfl (fun a w hS hI hp => does_val (x_assign rfl (rfl)) rfl) ?_
   exact .nil
  clear hS
  intro eN ex hS co hp
  replace hS := hS.nil
  have c5 : sl _ 4 = .slice A0 l0.length bh := hp 1 (by decide)
  have c6 : sl _ 5 = .bool false := hp 2 (by decide)
  have hS := hS.cons c5
  have hS := hS.cons c6
  clear hp c5 c6
  refine db _ _ ?_
  refine wp_ret ?_
  (try simp only [Exit.then, Exit.inBlock, Exit.jump, Exit.noGoto])
  exact bodyPost_ret (v := .tuple #[.slice A0 l0.length bh, .bool false]) (results_list (rs := [.tmp 4, .tmp 5]) rfl (by simp) (Vals.at (hS.get 1 rfl) (Vals.at (hS.get 0 rfl) .nil))) hS.nodef ⟨.slice A0 l0.length bh, rfl, ⟨_, _, rfl, HC0, Kd.C_below HR0 co.1⟩, co.1⟩
 rw [if_pos c1] at H
 refine wp_cond_false ((hS.get 0 rfl).trans (bF (congrArg (!·) c1))) ?_
 refine wp_skip ?_
 refine fg _ _ ?_
 refine wp_seq_k (fun eV db => ?_)
 refine reg_seq (I := I3_ w w3 w9) (ps := [IsV (.slice A0 l0.length bh), IsV (.slice A0 l0.length bh), VI (l0.length : Int), IsV (.slice A0 l0.length bh), VI (l0.length : Int), IsV (.slice A0 l0.length l0.length), IsV (.slice A0 l0.length l0.length)]) (by kernel_rfl) ?_ ?_ rfl hS ⟨dn.1, dn.2, (bR w9)⟩ ?_ ?_
 ·exact bs3
 ·exact .v (.v (.v (.v (.v (.v (.v (.nil)))))))
 ·refine .ms 2 rfl rfl rfl ?_
  refine .ms 2 rfl rfl rfl ?_
  refine .on rfl (fun a w hS hI hp => does_val (x_len (e := 5) rfl (by kernel_rfl) (hp.V 1 rfl rfl)) rfl) ?_
  refine .ms 2 rfl rfl rfl ?_
  refine .on rfl (fun a w hS hI hp => does_val (x_len (e := 5) rfl (by kernel_rfl) (hp.V 3 rfl rfl)) rfl) ?_
  refine .on rfl (fun a w hS hI hp => does_val (x_cutcap (e := 5) (n := l0.length) (c := bh) (j := (l0.length : Int)) (k := (l0.length : Int)) rfl (by kernel_rfl) (by kernel_rfl) (hp.V 0 rfl rfl) (hp.V 2 rfl rfl) (hp.V 4 rfl rfl) (Int.natCast_nonneg _) (Int.le_refl _) (Int.ofNat_le.2 HC0)) rfl) ?_
  refine .asg 5 rfl rfl rfl ?_
  exact .nil
 clear hS
 intro eN ex hS co hp
 replace hS := (hS.nil).cons (hS.get 1 rfl)
 have eJ : sl _ 6 = .slice A0 l0.length l0.length := hp 6 (by decide)
 have hS := hS.cons eJ
 clear hp eJ
 refine db _ _ ?_
 refine wp_seq_k (fun eW eO => ?_)
 have J1 : ∀ (dS : Act) (bY : World) (az a8 a9 ba bb bc bd be bf ao ai aD aE aF aG aH aI aJ aK aL aM aN aO : Int) (ag : Nat) (a3 : List Int) (br : Option Addr) (bA : Nat), body_Put.j1 k az a8 a9 ba bb bc bd be bf ao ai aD aE aF aG aH aI aJ aK aL aM aN aO a3 = some (r1, r2) → St 80 [(3, .pointer (some ⟨ag, 0, none⟩)), (6, .slice br a3.length bA)] dS → Below w.heap.size w bY → w.heap.size ≤ ag → bY.heap[ag]? = some (.cells (body_Put.c1 az a8 a9 ba bb bc bd be bf ao ai aD aE aF aG aH aI aJ aK aL aM aN aO) 28 (0, 0)) → a3.length ≤ bA → Kd.C (Kd.int .u8) bY br a3.length a3 → eW dS bY := by
  intro dS bY az a8 a9 ba bb bc bd be bf ao ai aD aE aF aG aH aI aJ aK aL aM aN aO ag a3 br bA H hS ds bX ad dm c0
  unfold body_Put.j1 at H
  (try dsimp only at H)
  refine eO _ _ ?_
  refine wp_seq_k (fun eC dW => ?_)
  have J2 : ∀ (dT : Act) (ap : World) (ac ct cu cv cw cx cy cz cA cB bW aP aQ aw ax ay aR aS aT aU aV aW aX : Int) (ab : Nat) (aj : List Int) (aY : Option Addr) (aZ : Nat), body_Put.j2 k ac ct cu cv cw cx cy cz cA cB bW aP aQ aw ax ay aR aS aT aU aV aW aX aj = some (r1, r2) → St 80 [(3, .pointer (some ⟨ab, 0, none⟩)), (6, .slice aY aj.length aZ)] dT → Below w.heap.size w ap → w.heap.size ≤ ab → ap.heap[ab]? = some (.cells (body_Put.c1 ac ct cu cv cw cx cy cz cA cB bW aP aQ aw ax ay aR aS aT aU aV aW aX) 28 (0, 0)) → aj.length ≤ aZ → Kd.C (Kd.int .u8) ap aY aj.length aj → eC dT ap := by
   intro dT ap ac ct cu cv cw cx cy cz cA cB bW aP aQ aw ax ay aR aS aT aU aV aW aX ab aj aY aZ H hS dt eH aa b9 bP
   unfold body_Put.j2 at H
   (try dsimp only at H)
   refine dW _ _ ?_
   refine wp_seq_k (fun eD dY => ?_)
   have J3 : ∀ (dU : Act) (cG : World) (aA : List Int) (aB : Option Addr) (aC : Nat), body_Put.j3 k aA = some (r1, r2) → St 80 [(6, .slice aB aA.length aC)] dU → Below w.heap.size w cG → aA.length ≤ aC → Kd.C (Kd.int .u8) cG aB aA.length aA → eD dU cG := by
    intro dU cG aA aB aC H hS du eF ec
    unfold body_Put.j3 at H
    (try dsimp only at H)
    simp only [Option.some.injEq, Prod.mk.injEq] at H
    obtain ⟨rfl, rfl⟩ := H
    refine dY _ _ ?_
    refine wp_seq_k (fun fx d4 => ?_)
    refine reg_seq (I := I2_ w cG) (ps := [IsV (.slice aB aA.length aC), IsV (.slice aB aA.length aC), VB true]) (by kernel_rfl) ?_ ?_ rfl hS ⟨du, (bR cG)⟩ ?_ ?_
    ·exact bs2
    ·exact .v (.v (.v (.nil)))
    ·refine .ms 0 rfl rfl rfl ?_
     refine .asg 0 rfl rfl rfl ?_
     refine .on rfl (fun a w hS hI hp => does_val (x_assign rfl (rfl)) rfl) ?_
     exact .nil
    clear hS
    intro fe fC hS c8 hp
    replace hS := hS.nil
    have c5 : sl _ 4 = .slice aB aA.length aC := hp 1 (by decide)
    have c6 : sl _ 5 = .bool true := hp 2 (by decide)
    have hS := hS.cons c5
    have hS := hS.cons c6
    clear hp c5 c6
    refine d4 _ _ ?_
    refine wp_ret ?_
    (try simp only [Exit.then, Exit.inBlock, Exit.jump, Exit.noGoto])
    exact bodyPost_ret (v := .tuple #[.slice aB aA.length aC, .bool true]) (results_list (rs := [.tmp 4, .tmp 5]) rfl (by simp) (Vals.at (hS.get 1 rfl) (Vals.at (hS.get 0 rfl) .nil))) hS.nodef ⟨.slice aB aA.length aC, rfl, ⟨_, _, rfl, eF, Kd.C_below ec c8.2⟩, c8.1⟩
   refine wp_seq_k (fun fs dZ => ?_)
   refine reg_seq (I := I2_ w ap) (ps := [VP ab 0, VI ac]) (by kernel_rfl) ?_ ?_ rfl hS ⟨dt, (bR ap)⟩ ?_ ?_
   ·exact bs2
   ·exact .v (.v (.nil))
   ·refine .on rfl (fun a w hS hI hp => does_val (x_fieldE (b := 0) rfl (hS.get 0 rfl) Try.underlying28 rfl rfl (by kernel_rfl)) rfl) ?_
    refine .on rfl (fun a w hS hI hp => does_val (x_load1 (d := .int .i64) rfl (hp.V 0 rfl rfl) (by kernel_rfl) rfl ((blk_cell (((hI.2).block ab (blk_lt aa)).trans aa) 0).trans rfl)) rfl) ?_
    exact .nil
   clear hS
   intro e0 dq hS c7 hp
   have em : sl _ 32 = .int .i64 ac := hp 1 (by decide)
   have hS := hS.cons em
   clear hp em
   refine dZ _ _ ?_
   refine wp_block ?_
   refine wp_seq_k (fun ft d0 => ?_)
   refine reg_seq (I := I3_ w ap dq) (ps := [VB (decide (ac = 2)), VB (decide (ac = 2))]) (by kernel_rfl) ?_ ?_ rfl hS ⟨c7.1, c7.2, (bR dq)⟩ ?_ ?_
   ·exact bs3
   ·exact .v (.v (.nil))
   ·refine .on rfl (fun a w hS hI hp => does_val (x_bin rfl (hS.get 0 rfl) (rfl) (b_eql _ _ _ _ _ _)) rfl) ?_
    refine .asg 0 rfl rfl rfl ?_
    exact .nil
   clear hS
   intro e1 a0 hS bQ hp
   have en : sl _ 33 = .bool (decide (ac = 2)) := hp 1 (by decide)
   have hS := hS.cons en
   clear hp en
   refine d0 _ _ ?_
   by_cases c2 : ac = 2
   ·rw [if_pos c2] at H
    obtain ⟨ar, dH, H⟩ := Option.bind_eq_some_iff.mp H
    refine wp_cond_true ((hS.get 0 rfl).trans (bT (decide_eq_true c2))) ?_
    refine reg_seq_tail 3 (I := I3_ w ap a0) (ps := [IsV (.slice aY aj.length aZ), IsV (.agg #[.int .u64 0, .int .i64 0]), IsR (Kd.int .u8) 5 a0.heap.size ar]) (by kernel_rfl) ?_ ?_ rfl hS ⟨bQ.1, bQ.2.1, (bR a0)⟩ ?_ ?_
    ·exact bs3
    ·exact .v (.v (.cons (Stays.r _ _ _ _) (.nil)))
    ·refine .ms 3 rfl rfl rfl ?_
     refine .on rfl (fun a w hS hI hp => does_val (x_build (vs := []) rfl (by rw [Array.toList_map]; exact (show [] = _ from rfl)) (by kernel_rfl)) rfl) ?_
     refine .on rfl (fun a w hS hI hp => does_call (by kernel_rfl) (ar2 (hp.V 0 rfl rfl) (hp.V 1 rfl rfl)) ((ident_Put.calls _ _ aj 0 0 ar _ (Kd.C_below bP hI.2.1) b9 dH).mono fun _ _ h => h.elim fun v0 h => ⟨v0, h.1, h.2.2, Kd.R_lower h.2.1 hI.2.2.size⟩)) ?_
     exact .nil
    clear hS
    intro dV af hS an hp
    replace hS := (hS.nil).cons (hS.get 3 rfl)
    obtain ⟨bl, bt, de, ee, d6⟩ := Kd.R_reads (show Kd.R (Kd.int .u8) 5 af a0.heap.size (fun _ => True) (sl _ 37) ar from hp 2 (by decide))
    have fj : Kd.R (Kd.int .u8) 5 af a0.heap.size (fun _ => True) (.slice bl ar.length bt) ar := de ▸ (hp 2 (by decide))
    have hS := hS.cons de
    clear hp de
    show wpList _ _ _ [_] _ _
    refine list_step rfl (R := fun v w' => Below _ _ w' ∧ (IsV (.slice bl ar.length bt)) v w') (does_val (x_assign rfl (hS.get 0 rfl)) rfl) ?_
    rintro er fz ⟨hb, he⟩
    have cT := below_step an.1 hb
    have ez := below_step an.2.1 hb
    have dw := below_step an.2.2 hb
    have b0 := below_step (bR af) hb
    obtain rfl : er = .slice bl ar.length bt := he
    replace hS := (hS.nil).cons (hS.get 0 rfl)
    refine hS.next (v := .slice bl ar.length bt) (d := 6) rfl (by decide) (by rfl) ?_
    clear hS
    intro e3 hS
    refine wpList_nil ?_
    replace hS := (hS.nil).cons (hS.get 0 rfl)
    (try simp only [Exit.then, Exit.inBlock])
    exact J3 _ _ ar bl bt H hS cT ee (Kd.C_below d6 b0)
   rw [if_neg c2] at H
   refine wp_cond_false ((hS.get 0 rfl).trans (bF (decide_eq_false c2))) ?_
   refine wp_seq_k (fun fu d1 => ?_)
   refine reg_seq (I := I3_ w ap a0) (ps := [VB (decide (ac = 11)), VB (decide (ac = 11))]) (by kernel_rfl) ?_ ?_ rfl hS ⟨bQ.1, bQ.2.1, (bR a0)⟩ ?_ ?_
   ·exact bs3
   ·exact .v (.v (.nil))
   ·refine .on rfl (fun a w hS hI hp => does_val (x_bin rfl (hS.get 1 rfl) (rfl) (b_eql _ _ _ _ _ _)) rfl) ?_
    refine .asg 0 rfl rfl rfl ?_
    exact .nil
   clear hS
   intro dV af hS an hp
   replace hS := (((hS.nil).cons (hS.get 3 rfl)).cons (hS.get 2 rfl)).cons (hS.get 1 rfl)
   have eo : sl _ 38 = .bool (decide (ac = 11)) := hp 1 (by decide)
   have hS := hS.cons eo
   clear hp eo
   refine d1 _ _ ?_
   by_cases c3 : ac = 11
   rotate_left
   ·rw [if_neg c3] at H
    refine wp_cond_false ((hS.get 0 rfl).trans (bF (decide_eq_false c3))) ?_
    refine wp_seq_k (fun eE cm => ?_)
    refine reg_seq (I := I3_ w ap af) (ps := [VB (decide (ac = 13)), VB (decide (ac = 13))]) (by kernel_rfl) ?_ ?_ rfl hS ⟨an.1, an.2.1, (bR af)⟩ ?_ ?_
    ·exact bs3
    ·exact .v (.v (.nil))
    ·refine .on rfl (fun a w hS hI hp => does_val (x_bin rfl (hS.get 1 rfl) (rfl) (b_eql _ _ _ _ _ _)) rfl) ?_
     refine .asg 0 rfl rfl rfl ?_
     exact .nil
    clear hS
    intro e2 a1 hS bS hp
    replace hS := ((hS.nil).cons (hS.get 3 rfl)).cons (hS.get 2 rfl)
    have ep : sl _ 65 = .bool (decide (ac = 13)) := hp 1 (by decide)
    have hS := hS.cons ep
    clear hp ep
    refine cm _ _ ?_
    by_cases c4 : ac = 13
    rotate_left
    ·rw [if_neg c4] at H
     refine wp_cond_false ((hS.get 0 rfl).trans (bF (decide_eq_false c4))) ?_
     refine wp_skip ?_
     replace hS := (hS.nil).cons (hS.get 2 rfl)
     (try simp only [Exit.then, Exit.inBlock])
     exact J3 _ _ aj aY aZ H hS bS.1 b9 (Kd.C_below bP bS.2.1)
    rw [if_pos c4] at H
    obtain ⟨cJ, dL, H⟩ := Option.bind_eq_some_iff.mp H
    obtain ⟨am, dM, H⟩ := Option.bind_eq_some_iff.mp H
    obtain ⟨ae, cd, H⟩ := Option.bind_eq_some_iff.mp H
    obtain ⟨au, dO, H⟩ := Option.bind_eq_some_iff.mp H
    refine wp_cond_true ((hS.get 0 rfl).trans (bT (decide_eq_true c4))) ?_
    refine wp_seq_k (fun fv d2 => ?_)
    refine reg_any_tail 7 [0, 0, 2, 7, 0, 16, 63, 127] (I := I3_ w ap a1) (ps := [IsV (.slice aY aj.length aZ), VP ab 20, VI aV, IsR (Kd.int .u8) 5 a1.heap.size cJ, VP ab 21, VI aW, IsR (Kd.int .u8) 5 a1.heap.size am]) (by kernel_rfl) (by kernel_rfl) (by kernel_rfl) (by decide) ?_ ?_ rfl hS ⟨bS.1, bS.2.1, (bR a1)⟩ ?_ ?_
    ·exact bs3
    ·exact .v (.v (.v (.cons (Stays.r _ _ _ _) (.v (.v (.cons (Stays.r _ _ _ _) (.nil)))))))
    ·refine .ms 2 rfl rfl rfl ?_
     refine .on rfl (fun a w hS hI hp => does_val (x_fieldE (b := 0) rfl (hS.get 1 rfl) Try.underlying28 rfl rfl (by kernel_rfl)) rfl) ?_
     refine .on rfl (fun a w hS hI hp => does_val (x_load1 (d := .int .i64) rfl (hp.V 1 rfl rfl) (by kernel_rfl) rfl ((blk_cell (((hI.2.1).block ab (blk_lt aa)).trans aa) 20).trans rfl)) rfl) ?_
     refine .on rfl (fun a w hS hI hp => does_call (by kernel_rfl) (ar3 (hp.V 0 rfl rfl) (hp.V 2 rfl rfl) (rfl)) ((octets_Put.calls _ _ aj aV 1 cJ _ (Kd.C_below bP hI.2.1) b9 dL).mono fun _ _ h => h.elim fun v0 h => ⟨v0, h.1, h.2.2, Kd.R_lower h.2.1 hI.2.2.size⟩)) ?_
     refine .on rfl (fun a w hS hI hp => does_val (x_fieldE (b := 0) rfl (hS.get 1 rfl) Try.underlying28 rfl rfl (by kernel_rfl)) rfl) ?_
     refine .on rfl (fun a w hS hI hp => does_val (x_load1 (d := .int .i64) rfl (hp.V 4 rfl rfl) (by kernel_rfl) rfl ((blk_cell (((hI.2.1).block ab (blk_lt aa)).trans aa) 21).trans rfl)) rfl) ?_
     refine .on rfl (fun a w hS hI hp => (IsC.of_r (hp.V 3 rfl rfl)).elim fun A_ h_ => h_.elim fun c_ h_ => h_.elim fun hv_ h_ => h_.elim fun hl_ hc_ => does_call (by kernel_rfl) (ar3 (hv_) (hp.V 5 rfl rfl) (rfl)) ((octets_Put.calls _ _ cJ aW 1 am _ hc_ hl_ dM).mono fun _ _ h => h.elim fun v0 h => ⟨v0, h.1, h.2.2, Kd.R_lower h.2.1 hI.2.2.size⟩)) ?_
     exact .nil
    clear hS
    intro e5 ah hS cr hp
    replace hS := ((hS.nil).cons (hS.get 2 rfl)).cons (hS.get 1 rfl)
    obtain ⟨bn, bv, di, eg, d8⟩ := Kd.R_reads (show Kd.R (Kd.int .u8) 5 ah a1.heap.size (fun _ => True) (sl _ 73) am from hp 6 (by decide))
    have fl : Kd.R (Kd.int .u8) 5 ah a1.heap.size (fun _ => True) (.slice bn am.length bv) am := di ▸ (hp 6 (by decide))
    have hS := hS.cons di
    clear hp di
    show wpList _ _ _ [_] _ _
    refine list_step rfl (R := fun v w' => Below _ _ w' ∧ (IsV (.slice bn am.length bv)) v w') (does_val (x_assign rfl (hS.get 0 rfl)) rfl) ?_
    rintro et bg ⟨hb, he⟩
    have cV := below_step cr.1 hb
    have cE := below_step cr.2.1 hb
    have b3 := below_step cr.2.2 hb
    have b4 := below_step (bR ah) hb
    obtain rfl : et = .slice bn am.length bv := he
    replace hS := ((hS.nil).cons (hS.get 1 rfl)).cons (hS.get 0 rfl)
    refine hS.next (v := .slice bn am.length bv) (d := 6) rfl (by decide) (by rfl) ?_
    clear hS
    intro e7 hS
    refine wpList_nil ?_
    refine d2 _ _ ?_
    refine reg_seq_tail 5 (I := I5_ w ap a1 ah bg) (ps := [IsV (.slice bn am.length bv), VP ab 22, VI aX, IsR (Kd.int .u8) 5 bg.heap.size ae, IsR (Kd.int .u8) 5 bg.heap.size au]) (by kernel_rfl) ?_ ?_ rfl hS ⟨cV, cE, b3, b4, (bR bg)⟩ ?_ ?_
    ·exact bs5
    ·exact .v (.v (.v (.cons (Stays.r _ _ _ _) (.cons (Stays.r _ _ _ _) (.nil)))))
    ·refine .ms 0 rfl rfl rfl ?_
     refine .on rfl (fun a w hS hI hp => does_val (x_fieldE (b := 0) rfl (hS.get 2 rfl) Try.underlying28 rfl rfl (by kernel_rfl)) rfl) ?_
     refine .on rfl (fun a w hS hI hp => does_val (x_load1 (d := .int .i64) rfl (hp.V 1 rfl rfl) (by kernel_rfl) rfl ((blk_cell (((hI.2.1).block ab (blk_lt aa)).trans aa) 22).trans rfl)) rfl) ?_
     refine .on rfl (fun a w hS hI hp => does_call (by kernel_rfl) (ar3 (hp.V 0 rfl rfl) (hp.V 2 rfl rfl) (rfl)) ((octets_Put.calls _ _ am aX 1 ae _ (Kd.C_below d8 hI.2.2.2.1) eg cd).mono fun _ _ h => h.elim fun v0 h => ⟨v0, h.1, h.2.2, Kd.R_lower h.2.1 hI.2.2.2.2.size⟩)) ?_
     refine .on rfl (fun a w hS hI hp => (IsC.of_r (hp.V 3 rfl rfl)).elim fun A_ h_ => h_.elim fun c_ h_ => h_.elim fun hv_ h_ => h_.elim fun hl_ hc_ => does_call (by kernel_rfl) (ar3 (hv_) (rfl) (rfl)) ((octets_Put.calls _ _ ae 0 1 au _ hc_ hl_ dO).mono fun _ _ h => h.elim fun v0 h => ⟨v0, h.1, h.2.2, Kd.R_lower h.2.1 hI.2.2.2.2.size⟩)) ?_
     exact .nil
    clear hS
    intro e9 cO hS a6 hp
    replace hS := (hS.nil).cons (hS.get 0 rfl)
    obtain ⟨bp, bx, dj, ei, ea⟩ := Kd.R_reads (show Kd.R (Kd.int .u8) 5 cO bg.heap.size (fun _ => True) (sl _ 78) au from hp 4 (by decide))
    have fo : Kd.R (Kd.int .u8) 5 cO bg.heap.size (fun _ => True) (.slice bp au.length bx) au := dj ▸ (hp 4 (by decide))
    have hS := hS.cons dj
    clear hp dj
    show wpList _ _ _ [_] _ _
    refine list_step rfl (R := fun v w' => Below _ _ w' ∧ (IsV (.slice bp au.length bx)) v w') (does_val (x_assign rfl (hS.get 0 rfl)) rfl) ?_
    rintro ev fA ⟨hb, he⟩
    have cX := below_step a6.1 hb
    have eA := below_step a6.2.1 hb
    have dz := below_step a6.2.2.1 hb
    have dA := below_step a6.2.2.2.1 hb
    have dB := below_step a6.2.2.2.2 hb
    have b7 := below_step (bR cO) hb
    obtain rfl : ev = .slice bp au.length bx := he
    replace hS := (hS.nil).cons (hS.get 0 rfl)
    refine hS.next (v := .slice bp au.length bx) (d := 6) rfl (by decide) (by rfl) ?_
    clear hS
    intro fb hS
    refine wpList_nil ?_
    replace hS := (hS.nil).cons (hS.get 0 rfl)
    (try simp only [Exit.then, Exit.inBlock])
    exact J3 _ _ au bp bx H hS cX ei (Kd.C_below ea b7)
   rw [if_pos c3] at H
   obtain ⟨cH, dI, H⟩ := Option.bind_eq_some_iff.mp H
   obtain ⟨cI, dJ, H⟩ := Option.bind_eq_some_iff.mp H
   obtain ⟨al, dK, H⟩ := Option.bind_eq_some_iff.mp H
   obtain ⟨cK, dN, H⟩ := Option.bind_eq_some_iff.mp H
   obtain ⟨ae, cd, H⟩ := Option.bind_eq_some_iff.mp H
   obtain ⟨cL, dP, H⟩ := Option.bind_eq_some_iff.mp H
   obtain ⟨cM, dQ, H⟩ := Option.bind_eq_some_iff.mp H
   obtain ⟨av, dR, H⟩ := Option.bind_eq_some_iff.mp H
   refine wp_cond_true ((hS.get 0 rfl).trans (bT (decide_eq_true c3))) ?_
   refine wp_seq_k (fun eE cm => ?_)
   refine reg_any_tail 8 [0, 0, 2, 7, 15, 0, 32, 127, 255] (I := I3_ w ap af) (ps := [IsV (.slice aY aj.length aZ), VP ab 11, VI aP, IsR (Kd.int .u8) 5 af.heap.size cH, IsR (Kd.int .u8) 5 af.heap.size cI, VP ab 12, VI aQ, IsR (Kd.int .u8) 5 af.heap.size al]) (by kernel_rfl) (by kernel_rfl) (by kernel_rfl) (by decide) ?_ ?_ rfl hS ⟨an.1, an.2.1, (bR af)⟩ ?_ ?_
   ·exact bs3
   ·exact .v (.v (.v (.cons (Stays.r _ _ _ _) (.cons (Stays.r _ _ _ _) (.v (.v (.cons (Stays.r _ _ _ _) (.nil))))))))
   ·refine .ms 3 rfl rfl rfl ?_
    refine .on rfl (fun a w hS hI hp => does_val (x_fieldE (b := 0) rfl (hS.get 2 rfl) Try.underlying28 rfl rfl (by kernel_rfl)) rfl) ?_
    refine .on rfl (fun a w hS hI hp => does_val (x_load1 (d := .int .i64) rfl (hp.V 1 rfl rfl) (by kernel_rfl) rfl ((blk_cell (((hI.2.1).block ab (blk_lt aa)).trans aa) 11).trans rfl)) rfl) ?_
    refine .on rfl (fun a w hS hI hp => does_call (by kernel_rfl) (ar3 (hp.V 0 rfl rfl) (hp.V 2 rfl rfl) (rfl)) ((octets_Put.calls _ _ aj aP 2 cH _ (Kd.C_below bP hI.2.1) b9 dI).mono fun _ _ h => h.elim fun v0 h => ⟨v0, h.1, h.2.2, Kd.R_lower h.2.1 hI.2.2.size⟩)) ?_
    refine .on rfl (fun a w hS hI hp => (IsC.of_r (hp.V 3 rfl rfl)).elim fun A_ h_ => h_.elim fun c_ h_ => h_.elim fun hv_ h_ => h_.elim fun hl_ hc_ => does_call (by kernel_rfl) (ar3 (hv_) (rfl) (rfl)) ((octets_Put.calls _ _ cH 0 1 cI _ hc_ hl_ dJ).mono fun _ _ h => h.elim fun v0 h => ⟨v0, h.1, h.2.2, Kd.R_lower h.2.1 hI.2.2.size⟩)) ?_
    refine .on rfl (fun a w hS hI hp => does_val (x_fieldE (b := 0) rfl (hS.get 2 rfl) Try.underlying28 rfl rfl (by kernel_rfl)) rfl) ?_
    refine .on rfl (fun a w hS hI hp => does_val (x_load1 (d := .int .i64) rfl (hp.V 5 rfl rfl) (by kernel_rfl) rfl ((blk_cell (((hI.2.1).block ab (blk_lt aa)).trans aa) 12).trans rfl)) rfl) ?_
    refine .on rfl (fun a w hS hI hp => (IsC.of_r (hp.V 4 rfl rfl)).elim fun A_ h_ => h_.elim fun c_ h_ => h_.elim fun hv_ h_ => h_.elim fun hl_ hc_ => does_call (by kernel_rfl) (ar3 (hv_) (hp.V 6 rfl rfl) (rfl)) ((octets_Put.calls _ _ cI aQ 1 al _ hc_ hl_ dK).mono fun _ _ h => h.elim fun v0 h => ⟨v0, h.1, h.2.2, Kd.R_lower h.2.1 hI.2.2.size⟩)) ?_
    exact .nil
   clear hS
   intro e4 cb hS cq hp
   replace hS := ((hS.nil).cons (hS.get 3 rfl)).cons (hS.get 2 rfl)
   obtain ⟨bm, bu, df, ef, d7⟩ := Kd.R_reads (show Kd.R (Kd.int .u8) 5 cb af.heap.size (fun _ => True) (sl _ 47) al from hp 7 (by decide))
   have fk : Kd.R (Kd.int .u8) 5 cb af.heap.size (fun _ => True) (.slice bm al.length bu) al := df ▸ (hp 7 (by decide))
   have hS := hS.cons df
   clear hp df
   show wpList _ _ _ [_] _ _
   refine list_step rfl (R := fun v w' => Below _ _ w' ∧ (IsV (.slice bm al.length bu)) v w') (does_val (x_assign rfl (hS.get 0 rfl)) rfl) ?_
   rintro es ah ⟨hb, he⟩
   have cU := below_step cq.1 hb
   have cD := below_step cq.2.1 hb
   have b1 := below_step cq.2.2 hb
   have b2 := below_step (bR cb) hb
   obtain rfl : es = .slice bm al.length bu := he
   replace hS := ((hS.nil).cons (hS.get 1 rfl)).cons (hS.get 0 rfl)
   refine hS.next (v := .slice bm al.length bu) (d := 6) rfl (by decide) (by rfl) ?_
   clear hS
   intro e6 hS
   refine wpList_nil ?_
   refine cm _ _ ?_
   refine wp_seq_k (fun fw d3 => ?_)
   refine reg_any_tail 7 [0, 0, 2, 7, 0, 16, 63, 127] (I := I5_ w ap af cb ah) (ps := [IsV (.slice bm al.length bu), VP ab 13, IsV (.agg #[.int .i64 aw, .int .i64 ax, .int .i64 ay]), IsR (Kd.int .u8) 5 ah.heap.size cK, VP ab 16, VI aR, IsR (Kd.int .u8) 5 ah.heap.size ae]) (by kernel_rfl) (by kernel_rfl) (by kernel_rfl) (by decide) ?_ ?_ rfl hS ⟨cU, cD, b1, b2, (bR ah)⟩ ?_ ?_
   ·exact bs5
   ·exact .v (.v (.v (.cons (Stays.r _ _ _ _) (.v (.v (.cons (Stays.r _ _ _ _) (.nil)))))))
   ·refine .ms 0 rfl rfl rfl ?_
    refine .on rfl (fun a w hS hI hp => does_val (x_fieldE (b := 0) rfl (hS.get 2 rfl) Try.underlying28 rfl rfl (by kernel_rfl)) rfl) ?_
    refine .on rfl (fun a w hS hI hp => does_loadmid (cs := [.int .i64 aw, .int .i64 ax, .int .i64 ay]) rfl (hp.V 1 rfl rfl) (((hI.2.1).block ab (blk_lt aa)).trans aa) (by kernel_rfl) Try.underlying26 rfl (by kernel_rfl) rfl) ?_
    refine .on rfl (fun a w hS hI hp => does_call (by kernel_rfl) (ar2 (hp.V 0 rfl rfl) (hp.V 2 rfl rfl)) ((quality_Put.calls _ _ al aw ax ay cK _ (Kd.C_below d7 hI.2.2.2.1) ef dN).mono fun _ _ h => h.elim fun v0 h => ⟨v0, h.1, h.2.2, Kd.R_lower h.2.1 hI.2.2.2.2.size⟩)) ?_
    refine .on rfl (fun a w hS hI hp => does_val (x_fieldE (b := 0) rfl (hS.get 2 rfl) Try.underlying28 rfl rfl (by kernel_rfl)) rfl) ?_
    refine .on rfl (fun a w hS hI hp => does_val (x_load1 (d := .int .i64) rfl (hp.V 4 rfl rfl) (by kernel_rfl) rfl ((blk_cell (((hI.2.1).block ab (blk_lt aa)).trans aa) 16).trans rfl)) rfl) ?_
    refine .on rfl (fun a w hS hI hp => (IsC.of_r (hp.V 3 rfl rfl)).elim fun A_ h_ => h_.elim fun c_ h_ => h_.elim fun hv_ h_ => h_.elim fun hl_ hc_ => does_call (by kernel_rfl) (ar3 (hv_) (hp.V 5 rfl rfl) (rfl)) ((octets_Put.calls _ _ cK aR 1 ae _ hc_ hl_ cd).mono fun _ _ h => h.elim fun v0 h => ⟨v0, h.1, h.2.2, Kd.R_lower h.2.1 hI.2.2.2.2.size⟩)) ?_
    exact .nil
   clear hS
   intro e8 cc hS a5 hp
   replace hS := ((hS.nil).cons (hS.get 2 rfl)).cons (hS.get 0 rfl)
   obtain ⟨bo, bw, dg, eh, d9⟩ := Kd.R_reads (show Kd.R (Kd.int .u8) 5 cc ah.heap.size (fun _ => True) (sl _ 54) ae from hp 6 (by decide))
   have fm : Kd.R (Kd.int .u8) 5 cc ah.heap.size (fun _ => True) (.slice bo ae.length bw) ae := dg ▸ (hp 6 (by decide))
   have hS := hS.cons dg
   clear hp dg
   show wpList _ _ _ [_] _ _
   refine list_step rfl (R := fun v w' => Below _ _ w' ∧ (IsV (.slice bo ae.length bw)) v w') (does_val (x_assign rfl (hS.get 0 rfl)) rfl) ?_
   rintro eu a2 ⟨hb, he⟩
   have cW := below_step a5.1 hb
   have cF := below_step a5.2.1 hb
   have dx := below_step a5.2.2.1 hb
   have dy := below_step a5.2.2.2.1 hb
   have b5 := below_step a5.2.2.2.2 hb
   have b6 := below_step (bR cc) hb
   obtain rfl : eu = .slice bo ae.length bw := he
   replace hS := ((hS.nil).cons (hS.get 2 rfl)).cons (hS.get 0 rfl)
   refine hS.next (v := .slice bo ae.length bw) (d := 6) rfl (by decide) (by rfl) ?_
   clear hS
   intro fa hS
   refine wpList_nil ?_
   refine d3 _ _ ?_
   refine reg_any_tail 10 [0, 0, 2, 7, 0, 16, 63, 0, 128, 511, 1023] (I := I5_ w ap ah cc a2) (ps := [IsV (.slice bo ae.length bw), VP ab 17, IsV (.int .u64 aS), IsR (Kd.int .u8) 5 a2.heap.size cL, VP ab 18, VI aT, IsR (Kd.int .u8) 5 a2.heap.size cM, VP ab 19, VI aU, IsR (Kd.int .u8) 5 a2.heap.size av]) (by kernel_rfl) (by kernel_rfl) (by kernel_rfl) (by decide) ?_ ?_ rfl hS ⟨cW, cF, b5, b6, (bR a2)⟩ ?_ ?_
   ·exact bs5
   ·exact .v (.v (.v (.cons (Stays.r _ _ _ _) (.v (.v (.cons (Stays.r _ _ _ _) (.v (.v (.cons (Stays.r _ _ _ _) (.nil))))))))))
   ·refine .ms 0 rfl rfl rfl ?_
    refine .on rfl (fun a w hS hI hp => does_val (x_fieldE (b := 0) rfl (hS.get 2 rfl) Try.underlying28 rfl rfl (by kernel_rfl)) rfl) ?_
    refine .on rfl (fun a w hS hI hp => does_val (x_load1 (d := .int .u64) rfl (hp.V 1 rfl rfl) (by kernel_rfl) rfl ((blk_cell (((hI.2.1).block ab (blk_lt aa)).trans aa) 17).trans rfl)) rfl) ?_
    refine .on rfl (fun a w hS hI hp => does_call (by kernel_rfl) (ar2 (hp.V 0 rfl rfl) (hp.V 2 rfl rfl)) ((octets_PutId.calls _ _ ae aS cL _ (Kd.C_below d9 hI.2.2.2.1) eh dP).mono fun _ _ h => h.elim fun v0 h => ⟨v0, h.1, h.2.2, Kd.R_lower h.2.1 hI.2.2.2.2.size⟩)) ?_
    refine .on rfl (fun a w hS hI hp => does_val (x_fieldE (b := 0) rfl (hS.get 2 rfl) Try.underlying28 rfl rfl (by kernel_rfl)) rfl) ?_
    refine .on rfl (fun a w hS hI hp => does_val (x_load1 (d := .int .i64) rfl (hp.V 4 rfl rfl) (by kernel_rfl) rfl ((blk_cell (((hI.2.1).block ab (blk_lt aa)).trans aa) 18).trans rfl)) rfl) ?_
    refine .on rfl (fun a w hS hI hp => (IsC.of_r (hp.V 3 rfl rfl)).elim fun A_ h_ => h_.elim fun c_ h_ => h_.elim fun hv_ h_ => h_.elim fun hl_ hc_ => does_call (by kernel_rfl) (ar3 (hv_) (hp.V 5 rfl rfl) (rfl)) ((octets_Put.calls _ _ cL aT 2 cM _ hc_ hl_ dQ).mono fun _ _ h => h.elim fun v0 h => ⟨v0, h.1, h.2.2, Kd.R_lower h.2.1 hI.2.2.2.2.size⟩)) ?_
    refine .on rfl (fun a w hS hI hp => does_val (x_fieldE (b := 0) rfl (hS.get 2 rfl) Try.underlying28 rfl rfl (by kernel_rfl)) rfl) ?_
    refine .on rfl (fun a w hS hI hp => does_val (x_load1 (d := .int .i64) rfl (hp.V 7 rfl rfl) (by kernel_rfl) rfl ((blk_cell (((hI.2.1).block ab (blk_lt aa)).trans aa) 19).trans rfl)) rfl) ?_
    refine .on rfl (fun a w hS hI hp => (IsC.of_r (hp.V 6 rfl rfl)).elim fun A_ h_ => h_.elim fun c_ h_ => h_.elim fun hv_ h_ => h_.elim fun hl_ hc_ => does_call (by kernel_rfl) (ar3 (hv_) (hp.V 8 rfl rfl) (rfl)) ((octets_Put.calls _ _ cM aU 1 av _ hc_ hl_ dR).mono fun _ _ h => h.elim fun v0 h => ⟨v0, h.1, h.2.2, Kd.R_lower h.2.1 hI.2.2.2.2.size⟩)) ?_
    exact .nil
   clear hS
   intro fc cP hS a7 hp
   replace hS := (hS.nil).cons (hS.get 0 rfl)
   obtain ⟨bq, bz, dh, ej, eb⟩ := Kd.R_reads (show Kd.R (Kd.int .u8) 5 cP a2.heap.size (fun _ => True) (sl _ 64) av from hp 9 (by decide))
   have fp : Kd.R (Kd.int .u8) 5 cP a2.heap.size (fun _ => True) (.slice bq av.length bz) av := dh ▸ (hp 9 (by decide))
   have hS := hS.cons dh
   clear hp dh
   show wpList _ _ _ [_] _ _
   refine list_step rfl (R := fun v w' => Below _ _ w' ∧ (IsV (.slice bq av.length bz)) v w') (does_val (x_assign rfl (hS.get 0 rfl)) rfl) ?_
   rintro ew fB ⟨hb, he⟩
   have cY := below_step a7.1 hb
   have eB := below_step a7.2.1 hb
   have dC := below_step a7.2.2.1 hb
   have dD := below_step a7.2.2.2.1 hb
   have dE := below_step a7.2.2.2.2 hb
   have b8 := below_step (bR cP) hb
   obtain rfl : ew = .slice bq av.length bz := he
   replace hS := (hS.nil).cons (hS.get 0 rfl)
   refine hS.next (v := .slice bq av.length bz) (d := 6) rfl (by decide) (by rfl) ?_
   clear hS
   intro fd hS
   refine wpList_nil ?_
   replace hS := (hS.nil).cons (hS.get 0 rfl)
   (try simp only [Exit.then, Exit.inBlock])
   exact J3 _ _ av bq bz H hS cY ej (Kd.C_below eb b8)
  obtain ⟨ca, dF, H⟩ := Option.bind_eq_some_iff.mp H
  refine wp_seq_k (fun fr dX => ?_)
  refine reg_seq (I := I2_ w bY) (ps := [VP ag 0, VI az, VB ca]) (by kernel_rfl) ?_ ?_ rfl hS ⟨ds, (bR bY)⟩ ?_ ?_
  ·exact bs2
  ·exact .v (.v (.v (.nil)))
  ·refine .on rfl (fun a w hS hI hp => does_val (x_fieldE (b := 0) rfl (hS.get 0 rfl) Try.underlying28 rfl rfl (by kernel_rfl)) rfl) ?_
   refine .on rfl (fun a w hS hI hp => does_val (x_load1 (d := .int .i64) rfl (hp.V 0 rfl rfl) (by kernel_rfl) rfl ((blk_cell (((hI.2).block ag (blk_lt ad)).trans ad) 0).trans rfl)) rfl) ?_
   refine .on rfl (fun a w hS hI hp => does_call (by kernel_rfl) (ar1 (hp.V 1 rfl rfl)) ((body_targeted.calls az ca _  dF).mono fun _ _ h => ⟨_, h.1, h.2.below, rfl⟩)) ?_
   exact .nil
  clear hS
  intro eX bV hS a4 hp
  have el : sl _ 26 = .bool ca := hp 2 (by decide)
  have hS := hS.cons el
  clear hp el
  refine dX _ _ ?_
  by_cases c2 : ca = true
  rotate_left
  ·rw [if_neg c2] at H
   refine wp_cond_false ((hS.get 0 rfl).trans (bF (Bool.eq_false_iff.2 c2))) ?_
   refine wp_skip ?_
   replace hS := ((hS.nil).cons (hS.get 2 rfl)).cons (hS.get 1 rfl)
   (try simp only [Exit.then, Exit.inBlock])
   exact J2 _ _ az a8 a9 ba bb bc bd be bf ao ai aD aE aF aG aH aI aJ aK aL aM aN aO ag a3 br bA H hS a4.1 bX ((a4.2.block ag (blk_lt ad)).trans ad) dm (Kd.C_below c0 a4.2)
  rw [if_pos c2] at H
  obtain ⟨aq, dG, H⟩ := Option.bind_eq_some_iff.mp H
  refine wp_cond_true ((hS.get 0 rfl).trans (bT c2)) ?_
  refine reg_seq_tail 4 (I := I3_ w bY bV) (ps := [IsV (.slice br a3.length bA), VP ag 9, IsV (.agg #[.int .u64 ao, .int .i64 ai]), IsR (Kd.int .u8) 5 bV.heap.size aq]) (by kernel_rfl) ?_ ?_ rfl hS ⟨a4.1, a4.2, (bR bV)⟩ ?_ ?_
  ·exact bs3
  ·exact .v (.v (.v (.cons (Stays.r _ _ _ _) (.nil))))
  ·refine .ms 2 rfl rfl rfl ?_
   refine .on rfl (fun a w hS hI hp => does_val (x_fieldE (b := 0) rfl (hS.get 1 rfl) Try.underlying28 rfl rfl (by kernel_rfl)) rfl) ?_
   refine .on rfl (fun a w hS hI hp => does_loadmid (cs := [.int .u64 ao, .int .i64 ai]) rfl (hp.V 1 rfl rfl) (((hI.2.1).block ag (blk_lt ad)).trans ad) (by kernel_rfl) Try.underlying24 rfl (by kernel_rfl) rfl) ?_
   refine .on rfl (fun a w hS hI hp => does_call (by kernel_rfl) (ar2 (hp.V 0 rfl rfl) (hp.V 2 rfl rfl)) ((ident_Put.calls _ _ a3 ao ai aq _ (Kd.C_below c0 hI.2.1) dm dG).mono fun _ _ h => h.elim fun v0 h => ⟨v0, h.1, h.2.2, Kd.R_lower h.2.1 hI.2.2.size⟩)) ?_
   exact .nil
  clear hS
  intro eY cN hS cn hp
  replace hS := ((hS.nil).cons (hS.get 2 rfl)).cons (hS.get 1 rfl)
  obtain ⟨bk, bs, dd, ed, d5⟩ := Kd.R_reads (show Kd.R (Kd.int .u8) 5 cN bV.heap.size (fun _ => True) (sl _ 30) aq from hp 3 (by decide))
  have fi : Kd.R (Kd.int .u8) 5 cN bV.heap.size (fun _ => True) (.slice bk aq.length bs) aq := dd ▸ (hp 3 (by decide))
  have hS := hS.cons dd
  clear hp dd
  show wpList _ _ _ [_] _ _
  refine list_step rfl (R := fun v w' => Below _ _ w' ∧ (IsV (.slice bk aq.length bs)) v w') (does_val (x_assign rfl (hS.get 0 rfl)) rfl) ?_
  rintro eq fy ⟨hb, he⟩
  have cS := below_step cn.1 hb
  have cC := below_step cn.2.1 hb
  have dv := below_step cn.2.2 hb
  have bZ := below_step (bR cN) hb
  obtain rfl : eq = .slice bk aq.length bs := he
  replace hS := ((hS.nil).cons (hS.get 1 rfl)).cons (hS.get 0 rfl)
  refine hS.next (v := .slice bk aq.length bs) (d := 6) rfl (by decide) (by rfl) ?_
  clear hS
  intro eZ hS
  refine wpList_nil ?_
  replace hS := ((hS.nil).cons (hS.get 0 rfl)).cons (hS.get 2 rfl)
  (try simp only [Exit.then, Exit.inBlock])
  exact J2 _ _ az a8 a9 ba bb bc bd be bf ao ai aD aE aF aG aH aI aJ aK aL aM aN aO ag aq bk bs H hS cS bX ((cC.block ag (blk_lt ad)).trans ad) ed (Kd.C_below d5 bZ)
 obtain ⟨dp, eL, H⟩ := Option.bind_eq_some_iff.mp H
 refine wp_seq_k (fun fH eP => ?_)
 refine reg_seq (I := I3_ w w3 ex) (ps := [VP g4 0, VI bi, VB dp]) (by kernel_rfl) ?_ ?_ rfl hS ⟨co.1, co.2.1, (bR ex)⟩ ?_ ?_
 ·exact bs3
 ·exact .v (.v (.v (.nil)))
 ·refine .on rfl (fun a w hS hI hp => does_val (x_fieldE (b := 0) rfl (hS.get 1 rfl) Try.underlying28 rfl rfl (by kernel_rfl)) rfl) ?_
  refine .on rfl (fun a w hS hI hp => does_val (x_load1 (d := .int .i64) rfl (hp.V 0 rfl rfl) (by kernel_rfl) rfl ((blk_cell (((hI.2.1).block g4 (blk_lt ak)).trans ak) 0).trans rfl)) rfl) ?_
  refine .on rfl (fun a w hS hI hp => does_call (by kernel_rfl) (ar1 (hp.V 1 rfl rfl)) ((body_stamped.calls bi dp _  eL).mono fun _ _ h => ⟨_, h.1, h.2.below, rfl⟩)) ?_
  exact .nil
 clear hS
 intro fD c9 hS cp hp
 have ek : sl _ 19 = .bool dp := hp 2 (by decide)
 have hS := hS.cons ek
 clear hp ek
 refine eP _ _ ?_
 by_cases c2 : dp = true
 rotate_left
 ·rw [if_neg c2] at H
  refine wp_cond_false ((hS.get 0 rfl).trans (bF (Bool.eq_false_iff.2 c2))) ?_
  refine wp_skip ?_
  replace hS := ((hS.nil).cons (hS.get 1 rfl)).cons (hS.get 2 rfl)
  (try simp only [Exit.then, Exit.inBlock])
  exact J1 _ _ bi ce cf cg ch ci cj ck bj cl bB bC bD bE bG bH bI bJ bK bL bM bN bO g4 l0 A0 l0.length H hS cp.1 dl ((cp.2.1.block g4 (blk_lt ak)).trans ak) (Nat.le_refl _) (Kd.C_below HR0 cp.1)
 rw [if_pos c2] at H
 obtain ⟨bU, eM, H⟩ := Option.bind_eq_some_iff.mp H
 refine wp_cond_true ((hS.get 0 rfl).trans (bT c2)) ?_
 refine reg_seq_tail 4 (I := I3_ w w3 c9) (ps := [IsV (.slice A0 l0.length l0.length), VP g4 8, VI bj, IsR (Kd.int .u8) 5 c9.heap.size bU]) (by kernel_rfl) ?_ ?_ rfl hS ⟨cp.1, cp.2.1, (bR c9)⟩ ?_ ?_
 ·exact bs3
 ·exact .v (.v (.v (.cons (Stays.r _ _ _ _) (.nil))))
 ·refine .ms 1 rfl rfl rfl ?_
  refine .on rfl (fun a w hS hI hp => does_val (x_fieldE (b := 0) rfl (hS.get 2 rfl) Try.underlying28 rfl rfl (by kernel_rfl)) rfl) ?_
  refine .on rfl (fun a w hS hI hp => does_val (x_load1 (d := .int .i64) rfl (hp.V 1 rfl rfl) (by kernel_rfl) rfl ((blk_cell (((hI.2.1).block g4 (blk_lt ak)).trans ak) 8).trans rfl)) rfl) ?_
  refine .on rfl (fun a w hS hI hp => does_call (by kernel_rfl) (ar2 (hp.V 0 rfl rfl) (hp.V 2 rfl rfl)) ((stamp_Put.calls _ _ l0 bj bU _ (Kd.C_below HR0 hI.1) (Nat.le_refl _) eM).mono fun _ _ h => h.elim fun v0 h => ⟨v0, h.1, h.2.2, Kd.R_lower h.2.1 hI.2.2.size⟩)) ?_
  exact .nil
 clear hS
 intro fE ey hS dk hp
 replace hS := ((hS.nil).cons (hS.get 2 rfl)).cons (hS.get 1 rfl)
 obtain ⟨cQ, cR, dc, eR, eQ⟩ := Kd.R_reads (show Kd.R (Kd.int .u8) 5 ey c9.heap.size (fun _ => True) (sl _ 23) bU from hp 3 (by decide))
 have fG : Kd.R (Kd.int .u8) 5 ey c9.heap.size (fun _ => True) (.slice cQ bU.length cR) bU := dc ▸ (hp 3 (by decide))
 have hS := hS.cons dc
 clear hp dc
 show wpList _ _ _ [_] _ _
 refine list_step rfl (R := fun v w' => Below _ _ w' ∧ (IsV (.slice cQ bU.length cR)) v w') (does_val (x_assign rfl (hS.get 0 rfl)) rfl) ?_
 rintro eS fK ⟨hb, he⟩
 have dr := below_step dk.1 hb
 have da := below_step dk.2.1 hb
 have eG := below_step dk.2.2 hb
 have cZ := below_step (bR ey) hb
 obtain rfl : eS = .slice cQ bU.length cR := he
 replace hS := ((hS.nil).cons (hS.get 2 rfl)).cons (hS.get 0 rfl)
 refine hS.next (v := .slice cQ bU.length cR) (d := 6) rfl (by decide) (by rfl) ?_
 clear hS
 intro fF hS
 refine wpList_nil ?_
 replace hS := ((hS.nil).cons (hS.get 0 rfl)).cons (hS.get 2 rfl)
 (try simp only [Exit.then, Exit.inBlock])
 exact J1 _ _ bi ce cf cg ch ci cj ck bj cl bB bC bD bE bG bH bI bJ bK bL bM bN bO g4 bU cQ cR H hS dr dl ((da.block g4 (blk_lt ak)).trans ak) eR (Kd.C_below eQ cZ)
def tlv_in.f (a0 : Int) (a1 : Int) (a2 : Int) : Option (Bool) := if a0 ≥ a1 then (some (decide (a0 ≤ a2))) else (some false)
set_option maxHeartbeats 8000000 in
set_option maxRecDepth 100000 in
theorem tlv_in.calls (a0 : Int) (a1 : Int) (a2 : Int) (r : Bool) (w : World) (h : tlv_in.f a0 a1 a2 = some r) :
    Calls Try.prog 79 #[.int .i64 a0, .int .i64 a1, .int .i64 a2] w fun e w' => e = .returned (.bool r) ∧ Drawn0 w w' := by
  have H : (if a0 ≥ a1 then (some (decide (a0 ≤ a2))) else (some false)) = some r := h
  clear h
  by_cases c4 : a0 ≥ a1
  · rw [if_pos c4] at H
    have c4b0 : decide (a1 ≤ a0) = true := decide_eq_true c4
    clear c4
    obtain rfl := Option.some.inj H
    go_enter Try.func79, Try.ntmps79
    go_wp2
    all_goals
      go_ret
      exact ⟨by first | rfl | (simp; done) | (simp [*]; done), by repeat (first | exact Drawn0.refl _ | apply Drawn0.step)⟩
  · rw [if_neg c4] at H
    have c4b0 : decide (a1 ≤ a0) = false := decide_eq_false c4
    clear c4
    obtain rfl := Option.some.inj H
    go_enter Try.func79, Try.ntmps79
    go_wp2
    all_goals
      go_ret
      exact ⟨by first | rfl | (simp; done) | (simp [*]; done), by repeat (first | exact Drawn0.refl _ | apply Drawn0.step)⟩
def tlv_Check.f (a0_0 : Int) (a0_1 : ByteArray) : Option (Bool) := (tlv_in.f a0_0 0 65535).bind fun t138 => (if t138 = true then (if ((a0_1.size : Int) % 2) = 0 then (some (decide ((a0_1.size : Int) ≤ 400))) else (some false)) else (some false))
set_option maxHeartbeats 8000000 in
set_option maxRecDepth 100000 in
theorem tlv_Check.calls (a0_0 : Int) (a0_1 : ByteArray) (r : Bool) (w : World) (h : tlv_Check.f a0_0 a0_1 = some r) :
    Calls Try.prog 42 #[.agg #[.int .i64 a0_0, .string a0_1]] w fun e w' => e = .returned (.bool r) ∧ Below w.heap.size w w' := by
  have hu43 := Try.underlying43
  have HB := Aside0.mk (Below.refl w.heap.size w)
  have H : ((tlv_in.f a0_0 0 65535).bind fun t138 => (if t138 = true then (if ((a0_1.size : Int) % 2) = 0 then (some (decide ((a0_1.size : Int) ≤ 400))) else (some false)) else (some false))) = some r := h
  clear h
  replace H := Option.bind_eq_some_iff.mp H
  obtain ⟨t138, A20, H⟩ := H
  replace H : (if t138 = true then (if ((a0_1.size : Int) % 2) = 0 then (some (decide ((a0_1.size : Int) ≤ 400))) else (some false)) else (some false)) = some r := H
  have A2 := Aside0.mk A20
  clear A20
  by_cases c3 : t138 = true
  · subst c3
    have H1 : (if ((a0_1.size : Int) % 2) = 0 then (some (decide ((a0_1.size : Int) ≤ 400))) else (some false)) = some r := by rw [if_pos rfl] at H; exact H
    clear H
    have H := H1
    clear H1
    by_cases c4 : ((a0_1.size : Int) % 2) = 0
    · rw [if_pos c4] at H
      have c4b0 : (((a0_1.size : Int) % 2) == 0) = true := beq_iff_eq.mpr c4
      have c4b1 : (((a0_1.size : Int) % 2) != 0) = false := bne_eq_false_iff_eq.mpr c4
      clear c4
      obtain rfl := Option.some.inj H
      go_enter Try.func42, Try.ntmps42
      go_wp2_with (first | ((with_reducible refine gate_dst (N := 1) rfl ?_); (try (refine gate_guard (by rfl) ?_; dsimp only)); refine box_event ?hg (N := 1) ?hd (cs := #[.int .i64 a0_0, .string a0_1]) (t := 43) ?hr ?_; (case hd => rfl); (case hg => rfl); (case hr => first | (go_simp; done) | (go_simp; rfl)); intro gb137 hg w5 hbox hb; have n0_ := Aside0.mk (below_step (by repeat (first | (with_reducible first | exact HB.out | apply below_alloc | apply pw_below_drewN | apply below_drew1) | exact HB.out)) hb); have n1_ := Aside0.mk (hbox); have n2_ := Aside0.mk ((by rw [hg]; exact (below_size (by repeat (first | (with_reducible first | exact HB.out | apply below_alloc | apply pw_below_drewN | apply below_drew1) | exact HB.out))) : w.heap.size ≤ gb137)); have n3_ := Aside0.mk ((by rw [hg]; exact (below_size (by repeat (first | (with_reducible first | exact HB.out | apply below_alloc | apply pw_below_drewN | apply below_drew1) | exact HB.out))) : w.heap.size ≤ gb137)); clear HB; have HB := n0_; have BK137 := n1_; have GW137 := n2_; have GE137 := n3_; clear n0_ n1_ n2_ n3_; clear hb hbox hg; have hcz6_0 : w5.cell? ⟨gb137, 0, none⟩ = some (.int .i64 a0_0) := (blk_cell BK137.out 0).trans rfl; have hcz6_1 : w5.cell? ⟨gb137, 1, none⟩ = some (.string a0_1) := (blk_cell BK137.out 1).trans rfl; have hfz6_0 := blk_frozen BK137.out 0; have hfz6_1 := blk_frozen BK137.out 1) | ((with_reducible refine gate_callee (f := 79) rfl ?_); refine goesL_ (some 5) rfl rfl Try.func79 (by kernel_rfl) rfl #[.int .i64 a0_0, .int .i64 0, .int .i64 65535] rfl (by (try simp only [List.map_toArray, List.map_cons, List.map_nil]); first | done | rfl | (simp only [List.length_drop, List.length_take]; rfl)) ?_; (with_reducible refine (tlv_in.calls a0_0 0 65535 true _ A2.out).mono ?_); rintro e w' ⟨rfl, ⟨nd, rfl⟩⟩; refine ⟨_, rfl, ?_⟩))
      all_goals
        go_ret
        exact ⟨by first | rfl | (simp [errW_none, errW_some] <;> rfl) | (simp [*, errW_none, errW_some] <;> rfl), by repeat (first | (with_reducible first | exact HB.out | apply below_alloc | apply pw_below_drewN | apply below_drew1 | refine below_set ?_ GE137.out) | exact HB.out)⟩
    · rw [if_neg c4] at H
      have c4b0 : (((a0_1.size : Int) % 2) == 0) = false := beq_eq_false_iff_ne.mpr c4
      have c4b1 : (((a0_1.size : Int) % 2) != 0) = true := bne_iff_ne.mpr c4
      obtain rfl := Option.some.inj H
      go_enter Try.func42, Try.ntmps42
      go_wp2_with (first | ((with_reducible refine gate_dst (N := 1) rfl ?_); (try (refine gate_guard (by rfl) ?_; dsimp only)); refine box_event ?hg (N := 1) ?hd (cs := #[.int .i64 a0_0, .string a0_1]) (t := 43) ?hr ?_; (case hd => rfl); (case hg => rfl); (case hr => first | (go_simp; done) | (go_simp; rfl)); intro gb137 hg w7 hbox hb; have n0_ := Aside0.mk (below_step (by repeat (first | (with_reducible first | exact HB.out | apply below_alloc | apply pw_below_drewN | apply below_drew1) | exact HB.out)) hb); have n1_ := Aside0.mk (hbox); have n2_ := Aside0.mk ((by rw [hg]; exact (below_size (by repeat (first | (with_reducible first | exact HB.out | apply below_alloc | apply pw_below_drewN | apply below_drew1) | exact HB.out))) : w.heap.size ≤ gb137)); have n3_ := Aside0.mk ((by rw [hg]; exact (below_size (by repeat (first | (with_reducible first | exact HB.out | apply below_alloc | apply pw_below_drewN | apply below_drew1) | exact HB.out))) : w.heap.size ≤ gb137)); clear HB; have HB := n0_; have BK137 := n1_; have GW137 := n2_; have GE137 := n3_; clear n0_ n1_ n2_ n3_; clear hb hbox hg; have hcz8_0 : w7.cell? ⟨gb137, 0, none⟩ = some (.int .i64 a0_0) := (blk_cell BK137.out 0).trans rfl; have hcz8_1 : w7.cell? ⟨gb137, 1, none⟩ = some (.string a0_1) := (blk_cell BK137.out 1).trans rfl; have hfz8_0 := blk_frozen BK137.out 0; have hfz8_1 := blk_frozen BK137.out 1) | ((with_reducible refine gate_callee (f := 79) rfl ?_); refine goesL_ (some 5) rfl rfl Try.func79 (by kernel_rfl) rfl #[.int .i64 a0_0, .int .i64 0, .int .i64 65535] rfl (by (try simp only [List.map_toArray, List.map_cons, List.map_nil]); first | done | rfl | (simp only [List.length_drop, List.length_take]; rfl)) ?_; (with_reducible refine (tlv_in.calls a0_0 0 65535 true _ A2.out).mono ?_); rintro e w' ⟨rfl, ⟨nd, rfl⟩⟩; refine ⟨_, rfl, ?_⟩))
      all_goals
        go_ret
        exact ⟨by first | rfl | (simp [errW_none, errW_some] <;> rfl) | (simp [*, errW_none, errW_some] <;> rfl), by repeat (first | (with_reducible first | exact HB.out | apply below_alloc | apply pw_below_drewN | apply below_drew1 | refine below_set ?_ GE137.out) | exact HB.out)⟩
  · replace c3 := Bool.eq_false_iff.mpr c3
    subst c3
    have H1 : (some false) = some r := by rw [if_neg (show ¬ (false = true) by decide)] at H; exact H
    clear H
    have H := H1
    clear H1
    obtain rfl := Option.some.inj H
    go_enter Try.func42, Try.ntmps42
    go_wp2_with (first | ((with_reducible refine gate_dst (N := 1) rfl ?_); (try (refine gate_guard (by rfl) ?_; dsimp only)); refine box_event ?hg (N := 1) ?hd (cs := #[.int .i64 a0_0, .string a0_1]) (t := 43) ?hr ?_; (case hd => rfl); (case hg => rfl); (case hr => first | (go_simp; done) | (go_simp; rfl)); intro gb137 hg w9 hbox hb; have n0_ := Aside0.mk (below_step (by repeat (first | (with_reducible first | exact HB.out | apply below_alloc | apply pw_below_drewN | apply below_drew1) | exact HB.out)) hb); have n1_ := Aside0.mk (hbox); have n2_ := Aside0.mk ((by rw [hg]; exact (below_size (by repeat (first | (with_reducible first | exact HB.out | apply below_alloc | apply pw_below_drewN | apply below_drew1) | exact HB.out))) : w.heap.size ≤ gb137)); have n3_ := Aside0.mk ((by rw [hg]; exact (below_size (by repeat (first | (with_reducible first | exact HB.out | apply below_alloc | apply pw_below_drewN | apply below_drew1) | exact HB.out))) : w.heap.size ≤ gb137)); clear HB; have HB := n0_; have BK137 := n1_; have GW137 := n2_; have GE137 := n3_; clear n0_ n1_ n2_ n3_; clear hb hbox hg; have hcz10_0 : w9.cell? ⟨gb137, 0, none⟩ = some (.int .i64 a0_0) := (blk_cell BK137.out 0).trans rfl; have hcz10_1 : w9.cell? ⟨gb137, 1, none⟩ = some (.string a0_1) := (blk_cell BK137.out 1).trans rfl; have hfz10_0 := blk_frozen BK137.out 0; have hfz10_1 := blk_frozen BK137.out 1) | ((with_reducible refine gate_callee (f := 79) rfl ?_); refine goesL_ (some 5) rfl rfl Try.func79 (by kernel_rfl) rfl #[.int .i64 a0_0, .int .i64 0, .int .i64 65535] rfl (by (try simp only [List.map_toArray, List.map_cons, List.map_nil]); first | done | rfl | (simp only [List.length_drop, List.length_take]; rfl)) ?_; (with_reducible refine (tlv_in.calls a0_0 0 65535 false _ A2.out).mono ?_); rintro e w' ⟨rfl, ⟨nd, rfl⟩⟩; refine ⟨_, rfl, ?_⟩))
    all_goals
      go_ret
      exact ⟨by first | rfl | (simp [errW_none, errW_some] <;> rfl) | (simp [*, errW_none, errW_some] <;> rfl), by repeat (first | (with_reducible first | exact HB.out | apply below_alloc | apply pw_below_drewN | apply below_drew1 | refine below_set ?_ GE137.out) | exact HB.out)⟩
def tlv_Put.l1 (k : Nat) : Nat → (List Int) → (List Int) → (List (S43)) → Int → Int → Option (List Int × Bool)
  | 0, _, _, _, _, _ => none
  | n1 + 1, y1_0, y1_6, y1_19, x1_20, x1_21 => if x1_21 < x1_20 then (if 0 ≤ x1_21 then (if x1_21 < (y1_19.length : Int) then ((tlv_Check.f ((rd_T43 y1_19 x1_21).f0) ((rd_T43 y1_19 x1_21).f1)).bind fun t1013 => (if t1013 = true then ((octets_Put.f y1_6 ((rd_T43 y1_19 x1_21).f0) 2).bind fun t1016 => ((octets_Put.f t1016 (((rd_T43 y1_19 x1_21).f1).size : Int) 2).bind fun t1017 => (if t1017.length + ((rd_T43 y1_19 x1_21).f1).size ≤ 140737488355328 then (tlv_Put.l1 k n1 y1_0 (t1017 ++ bytesOf ((rd_T43 y1_19 x1_21).f1) : List Int) y1_19 x1_20 (wrap64 (x1_21 + 1))) else (none)))) else (some (y1_0, false)))) else (none)) else (none)) else (some (y1_6, true))
def tlv_Put.f (k : Nat) (l0 : List Int) (l1 : List (S43)) : Option (List Int × Bool) := if (l1.length : Int) > 8 then (some (l0, false)) else (tlv_Put.l1 k k l0 l0 l1 (l1.length : Int) 0)
open Go.Proofs.Ytiomlbkakiienaa.E in
theorem tlv_Put.flat43 : Flat k43 (fun x => [.int .i64 x.f0, .string x.f1]) := ⟨fun w x cs h => k43_open h, fun w base x => k43_mkM w base _ x⟩
open Go.Proofs.Ytiomlbkakiienaa.E in
set_option maxHeartbeats 60000000 in
set_option maxRecDepth 100000 in
theorem tlv_Put.calls (k : Nat) (A0 : Option Addr) (ar : Nat) (l0 : List Int) (A1 : Option Addr) (aW : Nat) (l1 : List (S43)) (r1 : List Int) (r2 : Bool) (w : World) (HR0 : Kd.C (Kd.int .u8) w A0 l0.length l0) (HC0 : l0.length ≤ ar) (HR1 : Kd.C k43 w A1 l1.length l1) (HC1 : l1.length ≤ aW) (h : tlv_Put.f k l0 l1 = some (r1, r2)) :
    Calls Try.prog 21 #[.slice A0 l0.length ar, .slice A1 l1.length aW] w fun e w' => ∃ v0_ : Value, e = .returned (.tuple #[v0_, .bool r2]) ∧ IsC (Kd.int .u8) r1 v0_ w' ∧ Below w.heap.size w w' := by
 have H := h
 clear h
 unfold tlv_Put.f at H
 refine calls_of_wp (fn := Try.f21) (by kernel_rfl) rfl ?_
 have hS := St.enter #[.slice A0 l0.length ar, .slice A1 l1.length aW] 42 (by simp) [(0, .slice A0 l0.length ar), (1, .slice A1 l1.length aW)] (by simp)
 have bW := Below.refl w.heap.size w
 refine wp_seq_k (fun K1 b8 => ?_)
 refine reg_seq (I := I1_ w) (ps := [IsV (.slice none 0 0), VB false]) (by kernel_rfl) ?_ ?_ rfl hS bW ?_ ?_
 ·exact bs1
 ·exact .v (.v (.nil))
 ·refine .on rfl (fun a w hS hI hp => does_val (x_assign rfl (rfl)) rfl) ?_
  refine .on rfl (fun a w hS hI hp => does_val (x_assign rfl (rfl)) rfl) ?_
  exact .nil
 clear hS
 intro cv w3 hS ce hp
 clear hp
 refine b8 _ _ ?_
 refine wp_seq_k (fun K4 b9 => ?_)
 refine wp_seq_k (fun K5 ca => ?_)
 refine reg_seq (I := I2_ w w3) (ps := [IsV (.slice A1 l1.length aW), VI (l1.length : Int), VB (decide ((l1.length : Int) > 8))]) (by kernel_rfl) ?_ ?_ rfl hS ⟨ce, (bR w3)⟩ ?_ ?_
 ·exact bs2
 ·exact .v (.v (.v (.nil)))
 ·refine .ms 1 rfl rfl rfl ?_
  refine .on rfl (fun a w hS hI hp => does_val (x_len (e := 43) rfl (by kernel_rfl) (hp.V 0 rfl rfl)) rfl) ?_
  refine .on rfl (fun a w hS hI hp => does_val (x_bin rfl (hp.V 1 rfl rfl) (rfl) (b_gtr _ _ _ _ _ _)) rfl) ?_
  exact .nil
 clear hS
 intro cw w7 hS bS hp
 have bt : sl _ 11 = .bool (decide ((l1.length : Int) > 8)) := hp 2 (by decide)
 have hS := hS.cons bt
 clear hp bt
 refine ca _ _ ?_
 by_cases c1 : (l1.length : Int) > 8
 ·rw [if_pos c1] at H
  simp only [Option.some.injEq, Prod.mk.injEq] at H
  obtain ⟨rfl, rfl⟩ := H
  refine wp_cond_true ((hS.get 0 rfl).trans (bT (decide_eq_true c1))) ?_
  refine wp_seq_k (fun K8 bo => ?_)
  refine reg_seq (I := I2_ w w7) (ps := [IsV (.slice A0 l0.length ar), IsV (.slice A0 l0.length ar), VB false]) (by kernel_rfl) ?_ ?_ rfl hS ⟨bS.1, (bR w7)⟩ ?_ ?_
  ·exact bs2
  ·exact .v (.v (.v (.nil)))
  ·refine .ms 1 rfl rfl rfl ?_
   refine .asg 0 rfl rfl rfl ?_
   refine .on rfl (fun a w hS hI hp => does_val (x_assign rfl (rfl)) rfl) ?_
   exact .nil
  clear hS
  intro b7 bI hS aT hp
  replace hS := hS.nil
  have aD : sl _ 4 = .slice A0 l0.length ar := hp 1 (by decide)
  have aE : sl _ 5 = .bool false := hp 2 (by decide)
  have hS := hS.cons aD
  have hS := hS.cons aE
  clear hp aD aE
  refine bo _ _ ?_
  refine wp_ret ?_
  (try simp only [Exit.then, Exit.inBlock, Exit.jump, Exit.noGoto])
  exact bodyPost_ret (v := .tuple #[.slice A0 l0.length ar, .bool false]) (results_list (rs := [.tmp 4, .tmp 5]) rfl (by simp) (Vals.at (hS.get 1 rfl) (Vals.at (hS.get 0 rfl) .nil))) hS.nodef ⟨.slice A0 l0.length ar, rfl, ⟨_, _, rfl, HC0, Kd.C_below HR0 aT.1⟩, aT.1⟩
 rw [if_neg c1] at H
 refine wp_cond_false ((hS.get 0 rfl).trans (bF (decide_eq_false c1))) ?_
 refine wp_skip ?_
 refine b9 _ _ ?_
 refine wp_seq_k (fun K8 bo => ?_)
 refine reg_seq (I := I2_ w w7) (ps := [IsV (.slice A0 l0.length ar), IsV (.slice A0 l0.length ar), VI (l0.length : Int), IsV (.slice A0 l0.length ar), VI (l0.length : Int), IsV (.slice A0 l0.length l0.length), IsV (.slice A0 l0.length l0.length)]) (by kernel_rfl) ?_ ?_ rfl hS ⟨bS.1, (bR w7)⟩ ?_ ?_
 ·exact bs2
 ·exact .v (.v (.v (.v (.v (.v (.v (.nil)))))))
 ·refine .ms 1 rfl rfl rfl ?_
  refine .ms 1 rfl rfl rfl ?_
  refine .on rfl (fun a w hS hI hp => does_val (x_len (e := 5) rfl (by kernel_rfl) (hp.V 1 rfl rfl)) rfl) ?_
  refine .ms 1 rfl rfl rfl ?_
  refine .on rfl (fun a w hS hI hp => does_val (x_len (e := 5) rfl (by kernel_rfl) (hp.V 3 rfl rfl)) rfl) ?_
  refine .on rfl (fun a w hS hI hp => does_val (x_cutcap (e := 5) (n := l0.length) (c := ar) (j := (l0.length : Int)) (k := (l0.length : Int)) rfl (by kernel_rfl) (by kernel_rfl) (hp.V 0 rfl rfl) (hp.V 2 rfl rfl) (hp.V 4 rfl rfl) (Int.natCast_nonneg _) (Int.le_refl _) (Int.ofNat_le.2 HC0)) rfl) ?_
  refine .asg 5 rfl rfl rfl ?_
  exact .nil
 clear hS
 intro b7 bI hS aT hp
 replace hS := ((hS.nil).cons (hS.get 2 rfl)).cons (hS.get 1 rfl)
 have bP : sl _ 6 = .slice A0 l0.length l0.length := hp 6 (by decide)
 have hS := hS.cons bP
 clear hp bP
 refine bo _ _ ?_
 refine wp_seq_k (fun cr bU => ?_)
 refine wp_seq_k (fun ct bV => ?_)
 refine reg_seq (I := I2_ w bI) (ps := [IsV (.slice A1 l1.length aW), VI (l1.length : Int), VI 0]) (by kernel_rfl) ?_ ?_ rfl hS ⟨aT.1, (bR bI)⟩ ?_ ?_
 ·exact bs2
 ·exact .v (.v (.v (.nil)))
 ·refine .ms 2 rfl rfl rfl ?_
  refine .on rfl (fun a w hS hI hp => does_val (x_len (e := 43) rfl (by kernel_rfl) (hp.V 0 rfl rfl)) rfl) ?_
  refine .on rfl (fun a w hS hI hp => does_val (x_move rfl (rfl)) rfl) ?_
  exact .nil
 clear hS
 intro cq cx hS bE hp
 replace hS := ((hS.nil).cons (hS.get 1 rfl)).cons (hS.get 0 rfl)
 have bu : sl _ 19 = .slice A1 l1.length aW := hp 0 (by decide)
 have bv : sl _ 20 = .int .i64 (l1.length : Int) := hp 1 (by decide)
 have bw : sl _ 21 = .int .i64 0 := hp 2 (by decide)
 have hS := hS.cons bu
 have hS := hS.cons bv
 have hS := hS.cons bw
 clear hp bu bv bw
 refine bV _ _ ?_
 refine wp_block ?_
 replace hS := (((((hS.nil).cons (hS.get 0 rfl)).cons (hS.get 1 rfl)).cons (hS.get 2 rfl)).cons (hS.get 3 rfl)).cons (hS.get 4 rfl)
 refine wp_loop_ghost (fun n_ a_ av => ∃ (ah : List Int) (ai : Option Addr) (ak : Nat) (af : List Int) (aj : Option Addr) (al : Nat) (ab : List (S43)) (ay : Option Addr) (aA : Nat) (aq aa : Int), tlv_Put.l1 k n_ ah af ab aq aa = some (r1, r2) ∧ St 42 [(0, .slice ai ah.length ak), (6, .slice aj af.length al), (19, .slice ay ab.length aA), (20, .int .i64 aq), (21, .int .i64 aa)] a_ ∧ Below w.heap.size w av ∧ ah.length ≤ ak ∧ Kd.C (Kd.int .u8) w ai ah.length ah ∧ af.length ≤ al ∧ Kd.C (Kd.int .u8) av aj af.length af ∧ ab.length ≤ aA ∧ Kd.C k43 w ay ab.length ab) k ⟨l0, A0, ar, l0, A0, l0.length, l1, A1, aW, (l1.length : Int), 0, H, hS, bE.1, HC0, (HR0), (Nat.le_refl _), (Kd.C_below HR0 bE.1), HC1, (HR1)⟩ ?_
 clear H hS
 rintro n1 cu av ⟨ah, ai, ak, af, aj, al, ab, ay, aA, aq, aa, H, hS, ba, a6, a1, a7, a2, bs, aS⟩
 rcases n1 with _ | n1
 ·exact absurd H (by simp [tlv_Put.l1])
 rw [tlv_Put.l1] at H
 (try dsimp only at H)
 refine wp_seq_k (fun ch bi => ?_)
 refine reg_seq (I := I2_ w av) (ps := [VB (decide (aa < aq))]) (by kernel_rfl) ?_ ?_ rfl hS ⟨ba, (bR av)⟩ ?_ ?_
 ·exact bs2
 ·exact .v (.nil)
 ·refine .on rfl (fun a w hS hI hp => does_val (x_bin rfl (hS.get 4 rfl) (hS.get 3 rfl) (b_lss _ _ _ _ _ _)) rfl) ?_
  exact .nil
 clear hS
 intro bX an hS ao hp
 have bx : sl _ 22 = .bool (decide (aa < aq)) := hp 0 (by decide)
 have hS := hS.cons bx
 clear hp bx
 refine bi _ _ ?_
 refine wp_seq_k (fun ci bj => ?_)
 by_cases c2 : aa < aq
 rotate_left
 ·rw [if_neg c2] at H
  simp only [Option.some.injEq, Prod.mk.injEq] at H
  obtain ⟨rfl, rfl⟩ := H
  refine wp_cond_false ((hS.get 0 rfl).trans (bF (decide_eq_false c2))) ?_
  refine wp_exit ?_
  (try simp only [Exit.then, Exit.inBlock, reduceIte])
  refine bU _ _ ?_
  refine wp_seq_k (fun bM aO => ?_)
  refine reg_seq (I := I3_ w av an) (ps := [IsV (.slice aj af.length al), IsV (.slice aj af.length al), VB true]) (by kernel_rfl) ?_ ?_ rfl hS ⟨ao.1, ao.2, (bR an)⟩ ?_ ?_
  ·exact bs3
  ·exact .v (.v (.v (.nil)))
  ·refine .ms 2 rfl rfl rfl ?_
   refine .asg 0 rfl rfl rfl ?_
   refine .on rfl (fun a w hS hI hp => does_val (x_assign rfl (rfl)) rfl) ?_
   exact .nil
  clear hS
  intro bY cn hS a3 hp
  replace hS := hS.nil
  have aD : sl _ 4 = .slice aj af.length al := hp 1 (by decide)
  have aE : sl _ 5 = .bool true := hp 2 (by decide)
  have hS := hS.cons aD
  have hS := hS.cons aE
  clear hp aD aE
  refine aO _ _ ?_
  refine wp_ret ?_
  (try simp only [Exit.then, Exit.inBlock, Exit.jump, Exit.noGoto])
  exact bodyPost_ret (v := .tuple #[.slice aj af.length al, .bool true]) (results_list (rs := [.tmp 4, .tmp 5]) rfl (by simp) (Vals.at (hS.get 1 rfl) (Vals.at (hS.get 0 rfl) .nil))) hS.nodef ⟨.slice aj af.length al, rfl, ⟨_, _, rfl, a7, Kd.C_below a2 a3.2.1⟩, a3.1⟩
 rw [if_pos c2] at H
 by_cases c3 : 0 ≤ aa
 rotate_left
 ·rw [if_neg c3] at H
  exact absurd H (by simp)
 rw [if_pos c3] at H
 by_cases c4 : aa < (ab.length : Int)
 rotate_left
 ·rw [if_neg c4] at H
  exact absurd H (by simp)
 rw [if_pos c4] at H
 obtain ⟨aB, bf, H⟩ := Option.bind_eq_some_iff.mp H
 refine wp_cond_true ((hS.get 0 rfl).trans (bT (decide_eq_true c2))) ?_
 refine wp_skip ?_
 refine bj _ _ ?_
 refine wp_seq_k (fun bM aO => ?_)
 refine wp_block ?_
 refine wp_seq_k (fun cj bk => ?_)
 refine reg_seq_tail 3 (I := I3_ w av an) (ps := [IsAT [.int .i64 ((rd_T43 ab aa).f0), .string ((rd_T43 ab aa).f1)], IsV (.agg #[.int .i64 ((rd_T43 ab aa).f0), .string ((rd_T43 ab aa).f1)]), IsB #[.int .i64 0, .string (⟨#[]⟩ : ByteArray)] 43 an.heap.size]) (by kernel_rfl) ?_ ?_ rfl hS ⟨ao.1, ao.2, (bR an)⟩ ?_ ?_
 ·exact bs3
 ·exact .cons (Stays.at_ _) (.v (.cons (Stays.b _ _ _) (.nil)))
 ·refine .on rfl (fun a w hS hI hp => does_indexT tlv_Put.flat43 (e := 43) (xs := ab) (i := aa) z43 rfl (hS.get 3 rfl) (hS.get 5 rfl) (by kernel_rfl) (by kernel_rfl) c3 c4 c4 (by decide) ((Kd.C_below aS hI.1))) ?_
  refine .on rfl (fun a w hS hI hp => does_loadT (cs := [.int .i64 ((rd_T43 ab aa).f0), .string ((rd_T43 ab aa).f1)]) rfl (hp.V 0 rfl rfl) Try.underlying43 rfl (by kernel_rfl)) ?_
  refine .on rfl (fun a w hS hI hp => does_var (x_alloc rfl (by kernel_rfl)) (hI.2.2).size) ?_
  exact .nil
 clear hS
 intro bZ bN hS ap hp
 replace hS := (((((hS.nil).cons (hS.get 5 rfl)).cons (hS.get 4 rfl)).cons (hS.get 3 rfl)).cons (hS.get 2 rfl)).cons (hS.get 1 rfl)
 have bz : sl _ 24 = .agg #[.int .i64 ((rd_T43 ab aa).f0), .string ((rd_T43 ab aa).f1)] := hp 1 (by decide)
 obtain ⟨am, bQ, aw, aP⟩ := (show IsB _ 43 _ (sl _ 8) _ from hp 2 (by decide))
 have hS := hS.cons bz
 have hS := hS.cons bQ
 clear hp bz bQ
 show wpList _ _ _ [_] _ _
 refine list_step rfl (does_storeAll (g := am) (cs := #[.int .i64 ((rd_T43 ab aa).f0), .string ((rd_T43 ab aa).f1)]) rfl (hS.get 0 rfl) (hS.get 1 rfl) (((bR bN).block am (blk_lt aP)).trans aP) (by kernel_rfl) (by kernel_rfl) (by kernel_rfl)) ?_
 rintro cf aC ⟨rfl, ad, hT⟩
 have aX := hT.below ap.1 (Nat.le_trans (ao.1).size aw) (ap.1).size
 have aQ := hT.below ap.2.1 (Nat.le_trans (ao.2).size aw) (ap.2.1).size
 have aF := hT.below ap.2.2 aw (ap.2.2).size
 clear hT
 refine wpList_nil ?_
 refine bk _ _ ?_
 refine wp_seq_k (fun ck bl => ?_)
 refine wp_seq_k (fun cl bm => ?_)
 refine reg_seq (I := I4_ w av an aC) (ps := [IsV (.agg #[.int .i64 ((rd_T43 ab aa).f0), .string ((rd_T43 ab aa).f1)]), VB aB, VB (!aB)]) (by kernel_rfl) ?_ ?_ rfl hS ⟨aX, aQ, aF, (bR aC)⟩ ?_ ?_
 ·exact bs4
 ·exact .v (.v (.v (.nil)))
 ·refine .on rfl (fun a w hS hI hp => does_loadrow rfl (hS.get 0 rfl) (((hI.2.2.2).block am (blk_lt ad)).trans ad) Try.underlying43 rfl (by kernel_rfl) rfl) ?_
  refine .on rfl (fun a w hS hI hp => does_call (by kernel_rfl) (ar1 (hp.V 0 rfl rfl)) ((tlv_Check.calls ((rd_T43 ab aa).f0) ((rd_T43 ab aa).f1) aB _  bf).mono fun _ _ h => ⟨_, h.1, h.2, rfl⟩)) ?_
  refine .on rfl (fun a w hS hI hp => does_val (x_not rfl (hp.V 1 rfl rfl)) rfl) ?_
  exact .nil
 clear hS
 intro b0 ag hS ac hp
 replace hS := ((((((hS.nil).cons (hS.get 6 rfl)).cons (hS.get 5 rfl)).cons (hS.get 4 rfl)).cons (hS.get 3 rfl)).cons (hS.get 2 rfl)).cons (hS.get 0 rfl)
 have bA : sl _ 27 = .bool (!aB) := hp 2 (by decide)
 have hS := hS.cons bA
 clear hp bA
 refine bm _ _ ?_
 by_cases c5 : aB = true
 rotate_left
 ·rw [if_neg c5] at H
  simp only [Option.some.injEq, Prod.mk.injEq] at H
  obtain ⟨rfl, rfl⟩ := H
  refine wp_cond_true ((hS.get 0 rfl).trans (bT (congrArg (!·) (Bool.eq_false_iff.2 c5)))) ?_
  refine wp_seq_k (fun cm bn => ?_)
  refine reg_seq (I := I5_ w av an aC ag) (ps := [IsV (.slice ai ah.length ak), IsV (.slice ai ah.length ak), VB false]) (by kernel_rfl) ?_ ?_ rfl hS ⟨ac.1, ac.2.1, ac.2.2.1, ac.2.2.2, (bR ag)⟩ ?_ ?_
  ·exact bs5
  ·exact .v (.v (.v (.nil)))
  ·refine .ms 2 rfl rfl rfl ?_
   refine .asg 0 rfl rfl rfl ?_
   refine .on rfl (fun a w hS hI hp => does_val (x_assign rfl (rfl)) rfl) ?_
   exact .nil
  clear hS
  intro b1 co hS a4 hp
  replace hS := hS.nil
  have aD : sl _ 4 = .slice ai ah.length ak := hp 1 (by decide)
  have aE : sl _ 5 = .bool false := hp 2 (by decide)
  have hS := hS.cons aD
  have hS := hS.cons aE
  clear hp aD aE
  refine bn _ _ ?_
  refine wp_ret ?_
  (try simp only [Exit.then, Exit.inBlock, Exit.jump, Exit.noGoto])
  exact bodyPost_ret (v := .tuple #[.slice ai ah.length ak, .bool false]) (results_list (rs := [.tmp 4, .tmp 5]) rfl (by simp) (Vals.at (hS.get 1 rfl) (Vals.at (hS.get 0 rfl) .nil))) hS.nodef ⟨.slice ai ah.length ak, rfl, ⟨_, _, rfl, a6, Kd.C_below a1 a4.1⟩, a4.1⟩
 rw [if_pos c5] at H
 obtain ⟨aU, bg, H⟩ := Option.bind_eq_some_iff.mp H
 obtain ⟨ae, bh, H⟩ := Option.bind_eq_some_iff.mp H
 by_cases c6 : ae.length + ((rd_T43 ab aa).f1).size ≤ 140737488355328
 rotate_left
 ·rw [if_neg c6] at H
  exact absurd H (by simp)
 rw [if_pos c6] at H
 refine wp_cond_false ((hS.get 0 rfl).trans (bF (congrArg (!·) c5))) ?_
 refine wp_skip ?_
 refine bl _ _ ?_
 refine reg_any_tail 10 [0, 0, 2, 7, 0, 16, 48, 127, 0, 256, 1023, 2047] (I := I5_ w av an aC ag) (ps := [IsV (.slice aj af.length al), VP am 0, VI ((rd_T43 ab aa).f0), IsR (Kd.int .u8) 5 ag.heap.size aU, VP am 1, IsV (.string ((rd_T43 ab aa).f1)), VI (((rd_T43 ab aa).f1).size : Int), IsR (Kd.int .u8) 5 ag.heap.size ae, VP am 1, IsV (.string ((rd_T43 ab aa).f1))]) (by kernel_rfl) (by kernel_rfl) (by kernel_rfl) (by decide) ?_ ?_ rfl hS ⟨ac.1, ac.2.1, ac.2.2.1, ac.2.2.2, (bR ag)⟩ ?_ ?_
 ·exact bs5
 ·exact .v (.v (.v (.cons (Stays.r _ _ _ _) (.v (.v (.v (.cons (Stays.r _ _ _ _) (.v (.v (.nil))))))))))
 ·refine .ms 3 rfl rfl rfl ?_
  refine .on rfl (fun a w hS hI hp => does_val (x_fieldE (b := 0) rfl (hS.get 1 rfl) Try.underlying43 rfl rfl (by kernel_rfl)) rfl) ?_
  refine .on rfl (fun a w hS hI hp => does_val (x_load1 (d := .int .i64) rfl (hp.V 1 rfl rfl) (by kernel_rfl) rfl ((blk_cell (((hI.2.2.2.1).block am (blk_lt ad)).trans ad) 0).trans rfl)) rfl) ?_
  refine .on rfl (fun a w hS hI hp => does_call (by kernel_rfl) (ar3 (hp.V 0 rfl rfl) (hp.V 2 rfl rfl) (rfl)) ((octets_Put.calls _ _ af ((rd_T43 ab aa).f0) 2 aU _ (Kd.C_below a2 hI.2.1) a7 bg).mono fun _ _ h => h.elim fun v0 h => ⟨v0, h.1, h.2.2, Kd.R_lower h.2.1 hI.2.2.2.2.size⟩)) ?_
  refine .on rfl (fun a w hS hI hp => does_val (x_fieldE (b := 0) rfl (hS.get 1 rfl) Try.underlying43 rfl rfl (by kernel_rfl)) rfl) ?_
  refine .on rfl (fun a w hS hI hp => does_val (x_load1 (d := .string) rfl (hp.V 4 rfl rfl) (by kernel_rfl) rfl ((blk_cell (((hI.2.2.2.1).block am (blk_lt ad)).trans ad) 1).trans rfl)) rfl) ?_
  refine .on rfl (fun a w hS hI hp => does_val (x_lenS rfl (by kernel_rfl) (hp.V 5 rfl rfl)) rfl) ?_
  refine .on rfl (fun a w hS hI hp => (IsC.of_r (hp.V 3 rfl rfl)).elim fun A_ h_ => h_.elim fun c_ h_ => h_.elim fun hv_ h_ => h_.elim fun hl_ hc_ => does_call (by kernel_rfl) (ar3 (hv_) (hp.V 6 rfl rfl) (rfl)) ((octets_Put.calls _ _ aU (((rd_T43 ab aa).f1).size : Int) 2 ae _ hc_ hl_ bh).mono fun _ _ h => h.elim fun v0 h => ⟨v0, h.1, h.2.2, Kd.R_lower h.2.1 hI.2.2.2.2.size⟩)) ?_
  refine .on rfl (fun a w hS hI hp => does_val (x_fieldE (b := 0) rfl (hS.get 1 rfl) Try.underlying43 rfl rfl (by kernel_rfl)) rfl) ?_
  refine .on rfl (fun a w hS hI hp => does_val (x_load1 (d := .string) rfl (hp.V 8 rfl rfl) (by kernel_rfl) rfl ((blk_cell (((hI.2.2.2.1).block am (blk_lt ad)).trans ad) 1).trans rfl)) rfl) ?_
  exact .nil
 clear hS
 intro b2 aV hS bD hp
 replace hS := (((((hS.nil).cons (hS.get 6 rfl)).cons (hS.get 5 rfl)).cons (hS.get 4 rfl)).cons (hS.get 3 rfl)).cons (hS.get 2 rfl)
 obtain ⟨bK, bL, a5, cc, cb⟩ := Kd.R_reads (show Kd.R (Kd.int .u8) 5 aV ag.heap.size (fun _ => True) (sl _ 36) ae from hp 7 (by decide))
 have br : Kd.R (Kd.int .u8) 5 aV ag.heap.size (fun _ => True) (.slice bK ae.length bL) ae := a5 ▸ (hp 7 (by decide))
 have bB : sl _ 38 = .string ((rd_T43 ab aa).f1) := hp 9 (by decide)
 have hS := hS.cons a5
 have hS := hS.cons bB
 clear hp a5 bB
 show wpList _ _ _ [_, _] _ _
 refine list_step rfl (does_moreS (W := ag) (.tmp 36) (.tmp 38) 36 9 5 rfl (by kernel_rfl) (by kernel_rfl) (by kernel_rfl) _ ae ((rd_T43 ab aa).f1) (hS.get 1 rfl) (hS.get 0 rfl) (Kd.R_below br (bR aV)) (bD.2.2.2.2) c6) ?_
 rintro cg a8 ⟨hb, hr, hk⟩
 clear hk
 have aY := below_step ac.1 hb
 have aR := below_step ac.2.1 hb
 have aG := below_step ac.2.2.1 hb
 have aH := below_step ac.2.2.2 hb
 have aI := hb
 replace hS := ((((((hS.nil).cons (hS.get 6 rfl)).cons (hS.get 5 rfl)).cons (hS.get 4 rfl)).cons (hS.get 3 rfl)).cons (hS.get 2 rfl)).cons (hS.get 0 rfl)
 obtain ⟨ax, az, rfl, bq, bp⟩ := Kd.R_reads hr
 have cd := hr
 clear hr
 refine hS.next (v := .slice ax ((ae ++ bytesOf ((rd_T43 ab aa).f1) : List Int).length) az) (d := 39) rfl (by decide) (by rfl) ?_
 clear hS
 intro b3 hS
 refine list_step rfl (R := fun v w' => Below _ _ w' ∧ (IsV (.slice ax ((ae ++ bytesOf ((rd_T43 ab aa).f1) : List Int).length) az)) v w') (does_val (x_assign rfl (hS.get 0 rfl)) rfl) ?_
 rintro bG a9 ⟨hb, he⟩
 have aZ := below_step aY hb
 have bJ := below_step aR hb
 have aJ := below_step aG hb
 have aK := below_step aH hb
 have aL := below_step aI hb
 have aM := below_step (bR a8) hb
 obtain rfl : bG = .slice ax ((ae ++ bytesOf ((rd_T43 ab aa).f1) : List Int).length) az := he
 replace hS := ((((((hS.nil).cons (hS.get 6 rfl)).cons (hS.get 5 rfl)).cons (hS.get 4 rfl)).cons (hS.get 2 rfl)).cons (hS.get 1 rfl)).cons (hS.get 0 rfl)
 refine hS.next (v := .slice ax ((ae ++ bytesOf ((rd_T43 ab aa).f1) : List Int).length) az) (d := 6) rfl (by decide) (by rfl) ?_
 clear hS
 intro b4 hS
 refine wpList_nil ?_
 refine aO _ _ ?_
 refine reg_seq_tail 1 (I := I6_ w an aC ag a8 a9) (ps := [VI (wrap64 (aa + 1))]) (by kernel_rfl) ?_ ?_ rfl hS ⟨aZ, aJ, aK, aL, aM, (bR a9)⟩ ?_ ?_
 ·exact bs6
 ·exact .v (.nil)
 ·refine .on rfl (fun a w hS hI hp => does_val (x_bin rfl (hS.get 6 rfl) (rfl) (b_add _ _ _ _ _)) rfl) ?_
  exact .nil
 clear hS
 intro b5 bO hS au hp
 replace hS := (((((hS.nil).cons (hS.get 6 rfl)).cons (hS.get 5 rfl)).cons (hS.get 4 rfl)).cons (hS.get 3 rfl)).cons (hS.get 0 rfl)
 have bC : sl _ 40 = .int .i64 (wrap64 (aa + 1)) := hp 0 (by decide)
 have hS := hS.cons bC
 clear hp bC
 show wpList _ _ _ [_] _ _
 refine list_step rfl (R := fun v w' => Below _ _ w' ∧ (VI (wrap64 (aa + 1))) v w') (does_val (x_move rfl (hS.get 0 rfl)) rfl) ?_
 rintro bH cp ⟨hb, he⟩
 have a0 := below_step au.1 hb
 have bb := below_step au.2.1 hb
 have bc := below_step au.2.2.1 hb
 have bd := below_step au.2.2.2.1 hb
 have aN := below_step au.2.2.2.2.1 hb
 have be := below_step (bR bO) hb
 obtain rfl : bH = .int .i64 (wrap64 (aa + 1)) := he
 replace hS := (((((hS.nil).cons (hS.get 4 rfl)).cons (hS.get 3 rfl)).cons (hS.get 2 rfl)).cons (hS.get 1 rfl)).cons (hS.get 0 rfl)
 refine hS.next (v := .int .i64 (wrap64 (aa + 1))) (d := 21) rfl (by decide) (by rfl) ?_
 clear hS
 intro b6 hS
 refine wpList_nil ?_
 replace hS := (((((hS.nil).cons (hS.get 0 rfl)).cons (hS.get 5 rfl)).cons (hS.get 4 rfl)).cons (hS.get 2 rfl)).cons (hS.get 3 rfl)
 (try simp only [Exit.then, Exit.inBlock])
 exact ⟨n1, Nat.lt_succ_self _, ah, ai, ak, (ae ++ bytesOf ((rd_T43 ab aa).f1) : List Int), ax, az, ab, ay, aA, aq, wrap64 (aa + 1), H, hS, a0, a6, (a1), bq, (Kd.C_below bp aN), bs, (aS)⟩
def header_control.f (a0 : Int) : Option (Int) := if a0 = 0 then (some 0) else (if a0 = 1 then (some 1) else (if a0 = 8 then (some 2) else (if a0 = 9 then (some 3) else (if a0 = 13 then (some 4) else (some 5)))))
set_option maxHeartbeats 8000000 in
set_option maxRecDepth 100000 in
theorem header_control.calls (a0 : Int) (r : Int) (w : World) (h : header_control.f a0 = some r) :
    Calls Try.prog 45 #[.int .i64 a0] w fun e w' => e = .returned (.int .i64 r) ∧ Drawn0 w w' := by
  have H : (if a0 = 0 then (some 0) else (if a0 = 1 then (some 1) else (if a0 = 8 then (some 2) else (if a0 = 9 then (some 3) else (if a0 = 13 then (some 4) else (some 5)))))) = some r := h
  clear h
  by_cases c2 : a0 = 0
  · rw [if_pos c2] at H
    have c2b0 : (a0 == 0) = true := beq_iff_eq.mpr c2
    have c2b1 : (a0 != 0) = false := bne_eq_false_iff_eq.mpr c2
    clear c2
    obtain rfl := Option.some.inj H
    go_enter Try.func45, Try.ntmps45
    go_wp2
    all_goals
      go_ret
      exact ⟨by first | rfl | (simp; done) | (simp [*]; done), by repeat (first | exact Drawn0.refl _ | apply Drawn0.step)⟩
  · rw [if_neg c2] at H
    have c2b0 : (a0 == 0) = false := beq_eq_false_iff_ne.mpr c2
    have c2b1 : (a0 != 0) = true := bne_iff_ne.mpr c2
    by_cases c3 : a0 = 1
    · rw [if_pos c3] at H
      have c3b0 : (a0 == 1) = true := beq_iff_eq.mpr c3
      have c3b1 : (a0 != 1) = false := bne_eq_false_iff_eq.mpr c3
      clear c3
      obtain rfl := Option.some.inj H
      go_enter Try.func45, Try.ntmps45
      go_wp2
      all_goals
        go_ret
        exact ⟨by first | rfl | (simp; done) | (simp [*]; done), by repeat (first | exact Drawn0.refl _ | apply Drawn0.step)⟩
    · rw [if_neg c3] at H
      have c3b0 : (a0 == 1) = false := beq_eq_false_iff_ne.mpr c3
      have c3b1 : (a0 != 1) = true := bne_iff_ne.mpr c3
      by_cases c4 : a0 = 8
      · rw [if_pos c4] at H
        have c4b0 : (a0 == 8) = true := beq_iff_eq.mpr c4
        have c4b1 : (a0 != 8) = false := bne_eq_false_iff_eq.mpr c4
        clear c4
        obtain rfl := Option.some.inj H
        go_enter Try.func45, Try.ntmps45
        go_wp2
        all_goals
          go_ret
          exact ⟨by first | rfl | (simp; done) | (simp [*]; done), by repeat (first | exact Drawn0.refl _ | apply Drawn0.step)⟩
      · rw [if_neg c4] at H
        have c4b0 : (a0 == 8) = false := beq_eq_false_iff_ne.mpr c4
        have c4b1 : (a0 != 8) = true := bne_iff_ne.mpr c4
        by_cases c5 : a0 = 9
        · rw [if_pos c5] at H
          have c5b0 : (a0 == 9) = true := beq_iff_eq.mpr c5
          have c5b1 : (a0 != 9) = false := bne_eq_false_iff_eq.mpr c5
          clear c5
          obtain rfl := Option.some.inj H
          go_enter Try.func45, Try.ntmps45
          go_wp2
          all_goals
            go_ret
            exact ⟨by first | rfl | (simp; done) | (simp [*]; done), by repeat (first | exact Drawn0.refl _ | apply Drawn0.step)⟩
        · rw [if_neg c5] at H
          have c5b0 : (a0 == 9) = false := beq_eq_false_iff_ne.mpr c5
          have c5b1 : (a0 != 9) = true := bne_iff_ne.mpr c5
          by_cases c6 : a0 = 13
          · rw [if_pos c6] at H
            have c6b0 : (a0 == 13) = true := beq_iff_eq.mpr c6
            have c6b1 : (a0 != 13) = false := bne_eq_false_iff_eq.mpr c6
            clear c6
            obtain rfl := Option.some.inj H
            go_enter Try.func45, Try.ntmps45
            go_wp2
            all_goals
              go_ret
              exact ⟨by first | rfl | (simp; done) | (simp [*]; done), by repeat (first | exact Drawn0.refl _ | apply Drawn0.step)⟩
          · rw [if_neg c6] at H
            have c6b0 : (a0 == 13) = false := beq_eq_false_iff_ne.mpr c6
            have c6b1 : (a0 != 13) = true := bne_iff_ne.mpr c6
            obtain rfl := Option.some.inj H
            go_enter Try.func45, Try.ntmps45
            go_wp2
            all_goals
              go_ret
              exact ⟨by first | rfl | (simp; done) | (simp [*]; done), by repeat (first | exact Drawn0.refl _ | apply Drawn0.step)⟩
end Go.Proofs.Ytiomlbkakiienaa.P
