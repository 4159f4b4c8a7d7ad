/- Functions and loops of the given program as Lean functions, and that the code comes to what they say: written by this session's own program; Lean checks it. -/
import Derived.Test.YtiomlbkakiienaaZzPx0
import Derived.Test.YtiomlbkakiienaaZzPx6
import Derived.Test.YtiomlbkakiienaaZzPx7
import Derived.Test.YtiomlbkakiienaaZzPx9
import Derived.Test.YtiomlbkakiienaaZzPx10
namespace Go.Proofs.Ytiomlbkakiienaa.P
open Go.RowKit Go.Proofs.YtiomlbkakiienaaW.PrintWords Go.Proofs.YtiomlbkakiienaaW.PrintLast Go.Proofs.YtiomlbkakiienaaW.PrintMore
attribute [local go_sem] max2_int min2_int max_two min_two max_three min_three max_four min_four   -- for this text's walks alone
set_option linter.unusedVariables false
set_option linter.unusedSimpArgs false
def carillonref05_Put.f (k : Nat) (a0_0 : Int) (a0_1 : Int) (a0_2 : Int) : Option (List Int) := (carillonref01_Put.f k a0_0 1).bind fun t197 => ((carillonref01_Put.f k a0_1 1).bind fun t200 => (if t197.length + t200.length < 140737488355328 then ((some (t197 ++ t200 : List Int)).bind fun y203 => ((carillonref01_Put.f k a0_2 2).bind fun t206 => (if y203.length + t206.length < 140737488355328 then (some (y203 ++ t206)) else (none)))) else (none)))
def carillonref05_Put.T1 : Bool × List (List Nat × List Nat) := (true, [([], []), ([0], [0]), ([1], [1]), ([], []), ([3], [3]), ([4, 2], [4]), ([2, 5, 5], [2, 5]), ([], []), ([7], [7]), ([8, 6], [8]), ([6, 9, 9], [6, 9]), ([10, 10, 0, 1, 2, 3, 4, 5, 6, 7, 8, 9, 10], [10])])
def carillonref05_Put.B1 : List Nat := [0, 1, 3, 0, 8, 31, 63, 0, 128, 511, 1023, 2047]
theorem carillonref05_Put.tab1 : rtab .any (opsOf Try.f57 1) = carillonref05_Put.T1 := by kernel_rfl
theorem carillonref05_Put.bits1 : waitsOk carillonref05_Put.T1.2 carillonref05_Put.B1 = true := by kernel_rfl
set_option maxHeartbeats 8000000 in
set_option maxRecDepth 100000 in
theorem carillonref05_Put.calls (k : Nat) (a0_0 : Int) (a0_1 : Int) (a0_2 : Int) (r : List Int) (w : World) (h : carillonref05_Put.f k a0_0 a0_1 a0_2 = some r) :
    Calls Try.prog 57 #[.agg #[.int .i64 a0_0, .int .i64 a0_1, .int .i64 a0_2]] w fun e w' => ∃ v0_ : Value, e = .returned (v0_) ∧ Kd.R (Kd.int .u8) 5 w' w.heap.size (fun _ => True) v0_ r ∧ Below w.heap.size w w' := by
  have hu26 := Try.underlying26
  have HB := Aside0.mk (Below.refl w.heap.size w)
  have H : ((carillonref01_Put.f k a0_0 1).bind fun t197 => ((carillonref01_Put.f k a0_1 1).bind fun t200 => (if t197.length + t200.length < 140737488355328 then ((some (t197 ++ t200 : List Int)).bind fun y203 => ((carillonref01_Put.f k a0_2 2).bind fun t206 => (if y203.length + t206.length < 140737488355328 then (some (y203 ++ t206)) else (none)))) else (none)))) = some r := h
  clear h
  replace H := Option.bind_eq_some_iff.mp H
  obtain ⟨t197, A20, H⟩ := H
  replace H : ((carillonref01_Put.f k a0_1 1).bind fun t200 => (if t197.length + t200.length < 140737488355328 then ((some (t197 ++ t200 : List Int)).bind fun y203 => ((carillonref01_Put.f k a0_2 2).bind fun t206 => (if y203.length + t206.length < 140737488355328 then (some (y203 ++ t206)) else (none)))) else (none))) = some r := H
  have A2 := Aside0.mk A20
  clear A20
  replace H := Option.bind_eq_some_iff.mp H
  obtain ⟨t200, A30, H⟩ := H
  replace H : (if t197.length + t200.length < 140737488355328 then ((some (t197 ++ t200 : List Int)).bind fun y203 => ((carillonref01_Put.f k a0_2 2).bind fun t206 => (if y203.length + t206.length < 140737488355328 then (some (y203 ++ t206)) else (none)))) else (none)) = some r := H
  have A3 := Aside0.mk A30
  clear A30
  by_cases c4 : t197.length + t200.length < 140737488355328
  · rw [if_pos c4] at H
    have LMc4 := Aside0.mk c4
    clear c4
    obtain ⟨y203, hy203⟩ : ∃ y_ : List Int, y_ = (t197 ++ t200) := ⟨_, rfl⟩
    replace H : ((carillonref01_Put.f k a0_2 2).bind fun t206 => (if y203.length + t206.length < 140737488355328 then (some (y203 ++ t206)) else (none))) = some r := by first | (rw [hy203]; with_reducible exact H) | (have H2_ := (Option.bind_some _ _).symm.trans H; rw [hy203]; with_reducible exact H2_) | (have H2_ := (Option.bind_some _ _).symm.trans H; with_reducible exact H2_) | with_reducible exact H | (rw [hy203]; exact H) | exact H
    have Ny203 := Aside0.mk hy203
    clear hy203
    replace H := Option.bind_eq_some_iff.mp H
    obtain ⟨t206, A50, H⟩ := H
    replace H : (if y203.length + t206.length < 140737488355328 then (some (y203 ++ t206)) else (none)) = some r := H
    have A5 := Aside0.mk A50
    clear A50
    by_cases c6 : y203.length + t206.length < 140737488355328
    · rw [if_pos c6] at H
      have LMc6 := Aside0.mk c6
      clear c6
      obtain ⟨y209, hy209⟩ : ∃ y_ : List Int, y_ = (y203 ++ t206) := ⟨_, rfl⟩
      replace H : (some y209) = some r := by first | (rw [hy209]; with_reducible exact H) | (have H2_ := (Option.bind_some _ _).symm.trans H; rw [hy209]; with_reducible exact H2_) | (have H2_ := (Option.bind_some _ _).symm.trans H; with_reducible exact H2_) | with_reducible exact H | (rw [hy209]; exact H) | exact H
      have Ny209 := Aside0.mk hy209
      clear hy209
      obtain rfl := Option.some.inj H
      go_enter Try.func57, Try.ntmps57
      try go_wp2_with (first | ((with_reducible refine gate_dst (N := 1) rfl ?_); refine box_event ?hg (N := 1) ?hd (cs := #[.int .i64 a0_0, .int .i64 a0_1, .int .i64 a0_2]) (t := 26) ?hr ?_; (case hd => rfl); (case hg => rfl); (case hr => first | (go_simp; done) | (go_simp; rfl)); intro gb196 hg w7 hbox hb; have n0_ := Aside0.mk (below_step (by repeat (first | (with_reducible first | exact HB.out | apply below_alloc | apply pw_below_drewN | apply below_drew1) | exact HB.out)) hb); have n1_ := Aside0.mk (hbox); have n2_ := Aside0.mk ((by rw [hg]; exact (below_size (by repeat (first | (with_reducible first | exact HB.out | apply below_alloc | apply pw_below_drewN | apply below_drew1) | exact HB.out))) : w.heap.size ≤ gb196)); have n3_ := Aside0.mk ((by rw [hg]; exact (below_size (by repeat (first | (with_reducible first | exact HB.out | apply below_alloc | apply pw_below_drewN | apply below_drew1) | exact HB.out))) : w.heap.size ≤ gb196)); clear HB; have HB := n0_; have BK196 := n1_; have GW196 := n2_; have GE196 := n3_; clear n0_ n1_ n2_ n3_; clear hb hbox hg))
      have n0_ := Aside0.mk (blk_drew BK196.out)
      have n1_ := Aside0.mk (below_drew1 HB.out)
      clear BK196
      clear HB
      have BK196 := n0_
      have HB := n1_
      clear n0_ n1_
      refine start_ (n := 12) (S := fun w' => w'.cell? ⟨gb196, 0, none⟩ = some (.int .i64 a0_0) ∧ w'.cell? ⟨gb196, 1, none⟩ = some (.int .i64 a0_1) ∧ w'.cell? ⟨gb196, 2, none⟩ = some (.int .i64 a0_2)) (ds := []) #[false, false, false, false, false, false, false, false, false, false, false, false] (by kernel_rfl) rfl rfl ⟨(blk_cell BK196.out 0).trans rfl, (blk_cell BK196.out 1).trans rfl, (blk_cell BK196.out 2).trans rfl⟩ (fun hHeld => ?_); refine with_tabW carillonref05_Put.tab1 carillonref05_Put.bits1 (fun HT_ HW_ => ?_)
      generalize w7.drew = w8 at BK196 HB hHeld ⊢
      refine pure_ (i := 0) (N := some 3) (v := ?_) (a' := ?_) #[true, false, false, false, false, false, false, false, false, false, false, false] rfl rfl (any_of HT_.out (by kernel_rfl)) (fun _ _ _ h => h) (Or.inl ⟨by rfl, ?_⟩) ?_ ?_
      rotate_left
      · intro w'
        go_simp
        with_reducible rfl
      rotate_left
      · simp only [Act.put, List.setIfInBounds_toArray, List.set_cons_zero, List.set_cons_succ, i64_w, i32_w]
        rfl
      refine pure_ (i := 3) (N := some 6) (v := ?_) (a' := ?_) #[true, false, false, true, false, false, false, false, false, false, false, false] rfl rfl (any_of HT_.out (by kernel_rfl)) (fun _ _ _ h => h) (Or.inl ⟨by rfl, ?_⟩) ?_ ?_
      rotate_left
      · intro w'
        go_simp
        with_reducible rfl
      rotate_left
      · simp only [Act.put, List.setIfInBounds_toArray, List.set_cons_zero, List.set_cons_succ, i64_w, i32_w]
        rfl
      refine pure_ (i := 7) (N := some 10) (v := ?_) (a' := ?_) #[true, false, false, true, false, false, false, true, false, false, false, false] rfl rfl (any_of HT_.out (by kernel_rfl)) (fun _ _ _ h => h) (Or.inl ⟨by rfl, ?_⟩) ?_ ?_
      rotate_left
      · intro w'
        go_simp
        with_reducible rfl
      rotate_left
      · simp only [Act.put, List.setIfInBounds_toArray, List.set_cons_zero, List.set_cons_succ, i64_w, i32_w]
        rfl
      refine take_ (i := 1) (N := some 4) (v := ?_) (a' := ?_) #[true, true, false, true, false, false, false, true, false, false, false, false] rfl rfl (take_ofW HT_.out HW_.out (by kernel_rfl)) (fun _ _ _ h => h) (Or.inl ⟨by rfl, ?_⟩) hHeld ?_ ?_
      rotate_left
      · rintro w' ⟨s0, s1, s2⟩
        go_simp
        with_reducible rfl
      rotate_left
      · simp only [Act.put, List.setIfInBounds_toArray, List.set_cons_zero, List.set_cons_succ, i64_w, i32_w]
        rfl
      refine take_ (i := 4) (N := some 7) (v := ?_) (a' := ?_) #[true, true, false, true, true, false, false, true, false, false, false, false] rfl rfl (take_ofW HT_.out HW_.out (by kernel_rfl)) (fun _ _ _ h => h) (Or.inl ⟨by rfl, ?_⟩) hHeld ?_ ?_
      rotate_left
      · rintro w' ⟨s0, s1, s2⟩
        go_simp
        with_reducible rfl
      rotate_left
      · simp only [Act.put, List.setIfInBounds_toArray, List.set_cons_zero, List.set_cons_succ, i64_w, i32_w]
        rfl
      refine take_ (i := 8) (N := some 11) (v := ?_) (a' := ?_) #[true, true, false, true, true, false, false, true, true, false, false, false] rfl rfl (take_ofW HT_.out HW_.out (by kernel_rfl)) (fun _ _ _ h => h) (Or.inl ⟨by rfl, ?_⟩) hHeld ?_ ?_
      rotate_left
      · rintro w' ⟨s0, s1, s2⟩
        go_simp
        with_reducible rfl
      rotate_left
      · simp only [Act.put, List.setIfInBounds_toArray, List.set_cons_zero, List.set_cons_succ, i64_w, i32_w]
        rfl
      refine one_ (i := 2) (N := some 5) #[true, true, true, true, true, false, false, true, true, false, false, false] rfl rfl (one_of HT_.out (by kernel_rfl)) (by decide) (fun K hK => ?_)
      refine goes_ Try.func47 (by kernel_rfl) rfl #[.int .i64 a0_0, .int .i64 1] (by rfl) rfl rfl (by (try simp only [List.map_toArray, List.map_cons, List.map_nil]); first | done | rfl | (simp only [List.length_drop, List.length_take]; rfl)) ?_
      with_reducible refine (carillonref01_Put.calls k a0_0 1 t197 _ A2.out).mono ?_
      rintro e w9 ⟨v198, rfl, ho0, hb⟩
      refine ⟨_, rfl, ?_⟩
      have n0_ := Aside0.mk (Kd.R_lower ho0 (below_size (by repeat (first | (with_reducible first | exact HB.out | apply below_alloc | apply pw_below_drewN | apply below_drew1 | refine below_set ?_ GE196.out) | exact HB.out))))
      have n1_ := Aside0.mk (blk_below (g := gb196) (o := .cells #[.int .i64 a0_0, .int .i64 a0_1, .int .i64 a0_2] 26 (0, 0)) (by (with_reducible repeat (first | refine blk_drewN ?_ _ | refine blk_drew ?_ | refine blk_alloc ?_ _)); exact BK196.out) hb)
      have n2_ := Aside0.mk (below_step (by repeat (first | (with_reducible first | exact HB.out | apply below_alloc | apply pw_below_drewN | apply below_drew1 | refine below_set ?_ GE196.out) | exact HB.out)) hb)
      clear BK196
      clear HB
      have HO199 := n0_
      have BK196 := n1_
      have HB := n2_
      clear n0_ n1_ n2_
      (try clear hb)
      (try clear hb2)
      (try clear hk)
      (try clear hi)
      (try clear ho0)
      refine hK.out _ _ ⟨(blk_cell BK196.out 0).trans rfl, (blk_cell BK196.out 1).trans rfl, (blk_cell BK196.out 2).trans rfl⟩ (fun hHeld => ?_)
      clear hK K
      refine norm_ (a' := ?_) ?_ ?_
      rotate_left
      · show Act.put _ (some 5) _ = _
        simp only [Act.put, List.setIfInBounds_toArray, List.set_cons_zero, List.set_cons_succ, i64_w, i32_w]
        rfl
      refine one_ (i := 5) (N := some 8) #[true, true, true, true, true, true, false, true, true, false, false, false] rfl rfl (one_of HT_.out (by kernel_rfl)) (by decide) (fun K hK => ?_)
      refine goes_ Try.func47 (by kernel_rfl) rfl #[.int .i64 a0_1, .int .i64 1] (by rfl) rfl rfl (by (try simp only [List.map_toArray, List.map_cons, List.map_nil]); first | done | rfl | (simp only [List.length_drop, List.length_take]; rfl)) ?_
      with_reducible refine (carillonref01_Put.calls k a0_1 1 t200 _ A3.out).mono ?_
      rintro e w10 ⟨v201, rfl, ho0, hb⟩
      refine ⟨_, rfl, ?_⟩
      have n0_ := Aside0.mk (Kd.R_elder' (by (with_reducible repeat (first | apply Kd.R_alloc | apply Kd.R_drewN | apply Kd.R_drew)); exact HO199.out) (Kd.R_base ho0) hb)
      have n1_ := Aside0.mk (Kd.R_lower (Kd.R_new' ho0 (Kd.R_lt (by (with_reducible repeat (first | apply Kd.R_alloc | apply Kd.R_drewN | apply Kd.R_drew)); exact HO199.out))) (below_size (by repeat (first | (with_reducible first | exact HB.out | apply below_alloc | apply pw_below_drewN | apply below_drew1 | refine below_set ?_ GE196.out) | exact HB.out))))
      have n2_ := Aside0.mk (blk_below (g := gb196) (o := .cells #[.int .i64 a0_0, .int .i64 a0_1, .int .i64 a0_2] 26 (0, 0)) (by (with_reducible repeat (first | refine blk_drewN ?_ _ | refine blk_drew ?_ | refine blk_alloc ?_ _)); exact BK196.out) hb)
      have n3_ := Aside0.mk (below_step (by repeat (first | (with_reducible first | exact HB.out | apply below_alloc | apply pw_below_drewN | apply below_drew1 | refine below_set ?_ GE196.out) | exact HB.out)) hb)
      clear HO199
      clear BK196
      clear HB
      have HO199 := n0_
      have HO202 := n1_
      have BK196 := n2_
      have HB := n3_
      clear n0_ n1_ n2_ n3_
      (try clear hb)
      (try clear hb2)
      (try clear hk)
      (try clear hi)
      (try clear ho0)
      obtain ⟨Ao12, co12, eo12⟩ := Kd.R_slice HO202.out
      (first | subst eo12 | (injection eo12 with f1_ f2_ f3_; have f4_ := f1_.symm; have f5_ := f3_.symm; clear f1_ f2_ f3_; subst f4_; subst f5_))
      refine hK.out _ _ ⟨(blk_cell BK196.out 0).trans rfl, (blk_cell BK196.out 1).trans rfl, (blk_cell BK196.out 2).trans rfl⟩ (fun hHeld => ?_)
      clear hK K
      refine norm_ (a' := ?_) ?_ ?_
      rotate_left
      · show Act.put _ (some 8) _ = _
        simp only [Act.put, List.setIfInBounds_toArray, List.set_cons_zero, List.set_cons_succ, i64_w, i32_w]
        rfl
      refine one_ (i := 6) (N := some 9) #[true, true, true, true, true, true, true, true, true, false, false, false] rfl rfl (one_of HT_.out (by kernel_rfl)) (by decide) (fun K hK => ?_)
      refine Kd.R_append_rows_step (Kd.int .u8) (w0 := w) w.heap.size (by rfl) (.tmp 5) (.tmp 8) 36 5 (.int .u8 0) 1 rfl Try.underlying36 info5 rfl (by decide) (by omega) v198 t197 t200 _ _ _ (fun k_ => some k_ ≠ (.slice Ao12 t200.length co12 : Value).ownBlock) (fun _ => False) rfl rfl ?aO ?aR (fun _ _ h => h) (fun _ h => h.elim) ?aF ?aB ?aS ?aL ?_
      (case aR => repeat (first | exact (Kd.R_reads' HO202.out).2.2 | (with_reducible refine Kd.C_alloc ?_ _) | (with_reducible refine Kd.C_drewN ?_ _) | (with_reducible refine Kd.C_drew ?_)))
      (case aB => exact (by repeat (first | (with_reducible first | exact HB.out | apply below_alloc | apply pw_below_drewN | apply below_drew1 | refine below_set ?_ GE196.out) | exact HB.out)))
      (case aF => exact (fun k_ hk => Kd.fresh' (Kd.R_lt (by (with_reducible repeat (first | apply Kd.R_alloc | apply Kd.R_drewN | apply Kd.R_drew)); exact HO202.out)) k_ hk))
      (case aO => exact (by (with_reducible repeat (first | apply Kd.R_alloc | apply Kd.R_drewN | apply Kd.R_drew)); exact Kd.R_mono HO199.out (fun _ hk => hk.2)))
      (case aS => exact (below_size (by repeat (first | (with_reducible first | exact HB.out | apply below_alloc | apply pw_below_drewN | apply below_drew1 | refine below_set ?_ GE196.out) | exact HB.out))))
      (case aL => have := LMc4.out; omega)
      intro v204 w11 ho hb hg hat
      rw [← Ny203.out] at ho
      have n0_ := Aside0.mk (blk_grown (g := gb196) (o := .cells #[.int .i64 a0_0, .int .i64 a0_1, .int .i64 a0_2] 26 (0, 0)) (by (with_reducible repeat (first | refine blk_drewN ?_ _ | refine blk_drew ?_ | refine blk_alloc ?_ _)); exact BK196.out) hg (Kd.R_ne HO199.out BK196.out (by decide)))
      have n1_ := Aside0.mk (Kd.R_after (ok := (fun _ => True)) (by (with_reducible repeat (first | apply Kd.R_alloc | apply Kd.R_drewN | apply Kd.R_drew)); exact HO202.out) hg hat)
      have n2_ := Aside0.mk (hb)
      have n3_ := Aside0.mk (ho)
      clear BK196
      clear HO202
      clear HB
      clear HO199
      have BK196 := n0_
      have HO202 := n1_
      have HB := n2_
      have HO205 := n3_
      clear n0_ n1_ n2_ n3_
      clear ho hb hg hat
      refine hK.out _ _ ⟨(blk_cell BK196.out 0).trans rfl, (blk_cell BK196.out 1).trans rfl, (blk_cell BK196.out 2).trans rfl⟩ (fun hHeld => ?_)
      clear hK K
      refine norm_ (a' := ?_) ?_ ?_
      rotate_left
      · show Act.put _ (some 9) _ = _
        simp only [Act.put, List.setIfInBounds_toArray, List.set_cons_zero, List.set_cons_succ, i64_w, i32_w]
        rfl
      refine one_ (i := 9) (N := some 12) #[true, true, true, true, true, true, true, true, true, true, false, false] rfl rfl (one_of HT_.out (by kernel_rfl)) (by decide) (fun K hK => ?_)
      refine goes_ Try.func47 (by kernel_rfl) rfl #[.int .i64 a0_2, .int .i64 2] (by rfl) rfl rfl (by (try simp only [List.map_toArray, List.map_cons, List.map_nil]); first | done | rfl | (simp only [List.length_drop, List.length_take]; rfl)) ?_
      with_reducible refine (carillonref01_Put.calls k a0_2 2 t206 _ A5.out).mono ?_
      rintro e w13 ⟨v207, rfl, ho0, hb⟩
      refine ⟨_, rfl, ?_⟩
      have n0_ := Aside0.mk (Kd.R_elder' (by (with_reducible repeat (first | apply Kd.R_alloc | apply Kd.R_drewN | apply Kd.R_drew)); exact HO202.out) (Kd.R_base ho0) hb)
      have n1_ := Aside0.mk (Kd.R_elder' (by (with_reducible repeat (first | apply Kd.R_alloc | apply Kd.R_drewN | apply Kd.R_drew)); exact HO205.out) (Kd.R_base ho0) hb)
      have n2_ := Aside0.mk (Kd.R_lower (Kd.R_new' (Kd.R_new' ho0 (Kd.R_lt (by (with_reducible repeat (first | apply Kd.R_alloc | apply Kd.R_drewN | apply Kd.R_drew)); exact HO202.out))) (Kd.R_lt (by (with_reducible repeat (first | apply Kd.R_alloc | apply Kd.R_drewN | apply Kd.R_drew)); exact HO205.out))) (below_size (by repeat (first | (with_reducible first | exact HB.out | apply below_alloc | apply pw_below_drewN | apply below_drew1 | refine below_set ?_ GE196.out) | exact HB.out))))
      have n3_ := Aside0.mk (blk_below (g := gb196) (o := .cells #[.int .i64 a0_0, .int .i64 a0_1, .int .i64 a0_2] 26 (0, 0)) (by (with_reducible repeat (first | refine blk_drewN ?_ _ | refine blk_drew ?_ | refine blk_alloc ?_ _)); exact BK196.out) hb)
      have n4_ := Aside0.mk (below_step (by repeat (first | (with_reducible first | exact HB.out | apply below_alloc | apply pw_below_drewN | apply below_drew1 | refine below_set ?_ GE196.out) | exact HB.out)) hb)
      clear HO202
      clear HO205
      clear BK196
      clear HB
      have HO202 := n0_
      have HO205 := n1_
      have HO208 := n2_
      have BK196 := n3_
      have HB := n4_
      clear n0_ n1_ n2_ n3_ n4_
      (try clear hb)
      (try clear hb2)
      (try clear hk)
      (try clear hi)
      (try clear ho0)
      obtain ⟨Ao15, co15, eo15⟩ := Kd.R_slice HO208.out
      (first | subst eo15 | (injection eo15 with f1_ f2_ f3_; have f4_ := f1_.symm; have f5_ := f3_.symm; clear f1_ f2_ f3_; subst f4_; subst f5_))
      refine hK.out _ _ ⟨(blk_cell BK196.out 0).trans rfl, (blk_cell BK196.out 1).trans rfl, (blk_cell BK196.out 2).trans rfl⟩ (fun hHeld => ?_)
      clear hK K
      refine norm_ (a' := ?_) ?_ ?_
      rotate_left
      · show Act.put _ (some 12) _ = _
        simp only [Act.put, List.setIfInBounds_toArray, List.set_cons_zero, List.set_cons_succ, i64_w, i32_w]
        rfl
      refine one_ (i := 10) (N := some 13) #[true, true, true, true, true, true, true, true, true, true, true, false] rfl rfl (one_of HT_.out (by kernel_rfl)) (by decide) (fun K hK => ?_)
      refine Kd.R_append_rows_step (Kd.int .u8) (w0 := w) w.heap.size (by rfl) (.tmp 9) (.tmp 12) 36 5 (.int .u8 0) 1 rfl Try.underlying36 info5 rfl (by decide) (by omega) v204 y203 t206 _ _ _ (fun k_ => some k_ ≠ (.slice Ao12 t200.length co12 : Value).ownBlock ∧ some k_ ≠ (.slice Ao15 t206.length co15 : Value).ownBlock) (fun _ => False) rfl rfl ?aO ?aR (fun _ _ h => h) (fun _ h => h.elim) ?aF ?aB ?aS ?aL ?_
      (case aR => repeat (first | exact (Kd.R_reads' HO208.out).2.2 | (with_reducible refine Kd.C_alloc ?_ _) | (with_reducible refine Kd.C_drewN ?_ _) | (with_reducible refine Kd.C_drew ?_)))
      (case aB => exact (by repeat (first | (with_reducible first | exact HB.out | apply below_alloc | apply pw_below_drewN | apply below_drew1 | refine below_set ?_ GE196.out) | exact HB.out)))
      (case aF => exact (fun k_ hk => ⟨Kd.fresh' (Kd.R_lt (by (with_reducible repeat (first | apply Kd.R_alloc | apply Kd.R_drewN | apply Kd.R_drew)); exact HO202.out)) k_ hk, Kd.fresh' (Kd.R_lt (by (with_reducible repeat (first | apply Kd.R_alloc | apply Kd.R_drewN | apply Kd.R_drew)); exact HO208.out)) k_ hk⟩))
      (case aO => exact (by (with_reducible repeat (first | apply Kd.R_alloc | apply Kd.R_drewN | apply Kd.R_drew)); exact HO205.out))
      (case aS => exact (below_size (by repeat (first | (with_reducible first | exact HB.out | apply below_alloc | apply pw_below_drewN | apply below_drew1 | refine below_set ?_ GE196.out) | exact HB.out))))
      (case aL => have := LMc6.out; omega)
      intro v210 w14 ho hb hg hat
      rw [← Ny209.out] at ho
      have n0_ := Aside0.mk (blk_grown (g := gb196) (o := .cells #[.int .i64 a0_0, .int .i64 a0_1, .int .i64 a0_2] 26 (0, 0)) (by (with_reducible repeat (first | refine blk_drewN ?_ _ | refine blk_drew ?_ | refine blk_alloc ?_ _)); exact BK196.out) hg (Kd.R_ne HO205.out BK196.out (by decide)))
      have n1_ := Aside0.mk (Kd.R_after (ok := (fun k_ => some k_ ≠ (.slice Ao15 t206.length co15 : Value).ownBlock)) (by (with_reducible repeat (first | apply Kd.R_alloc | apply Kd.R_drewN | apply Kd.R_drew)); exact Kd.R_mono HO202.out (fun _ hk => ⟨hk.2, hk.1.2⟩)) hg hat)
      have n2_ := Aside0.mk (Kd.R_after (ok := (fun k_ => some k_ ≠ (.slice Ao12 t200.length co12 : Value).ownBlock)) (by (with_reducible repeat (first | apply Kd.R_alloc | apply Kd.R_drewN | apply Kd.R_drew)); exact Kd.R_mono HO208.out (fun _ hk => ⟨hk.1.2, hk.2⟩)) hg hat)
      have n3_ := Aside0.mk (hb)
      have n4_ := Aside0.mk (ho)
      clear BK196
      clear HO202
      clear HO208
      clear HB
      clear HO205
      have BK196 := n0_
      have HO202 := n1_
      have HO208 := n2_
      have HB := n3_
      have HO211 := n4_
      clear n0_ n1_ n2_ n3_ n4_
      clear ho hb hg hat
      refine hK.out _ _ ⟨(blk_cell BK196.out 0).trans rfl, (blk_cell BK196.out 1).trans rfl, (blk_cell BK196.out 2).trans rfl⟩ (fun hHeld => ?_)
      clear hK K
      refine norm_ (a' := ?_) ?_ ?_
      rotate_left
      · show Act.put _ (some 13) _ = _
        simp only [Act.put, List.setIfInBounds_toArray, List.set_cons_zero, List.set_cons_succ, i64_w, i32_w]
        rfl
      refine pure_ (i := 11) (N := some 2) (v := ?_) (a' := ?_) #[true, true, true, true, true, true, true, true, true, true, true, true] rfl rfl (any_of HT_.out (by kernel_rfl)) (fun _ _ _ h => h) (Or.inl ⟨by rfl, ?_⟩) ?_ ?_
      rotate_left
      · intro w'
        go_simp
        with_reducible rfl
      rotate_left
      · simp only [Act.put, List.setIfInBounds_toArray, List.set_cons_zero, List.set_cons_succ, i64_w, i32_w]
        rfl
      refine done_ (done_of HT_.out (by kernel_rfl)) ?_
      try go_wp2
      all_goals
        go_ret
        exact ⟨_, by first | rfl | (simp [errW_none, errW_some] <;> rfl) | (simp [*, errW_none, errW_some] <;> rfl), by (with_reducible repeat (first | apply Kd.R_alloc | apply Kd.R_drewN | apply Kd.R_drew)); exact Kd.R_mono HO211.out (fun _ hk => trivial), by repeat (first | (with_reducible first | exact HB.out | apply below_alloc | apply pw_below_drewN | apply below_drew1 | refine below_set ?_ GE196.out) | exact HB.out)⟩
    · rw [if_neg c6] at H
      exact absurd H (by simp)
  · rw [if_neg c4] at H
    exact absurd H (by simp)
def carillonref07_Put.j3 (k : Nat) (y3_3 : List Int) : Option (List Int) := some y3_3
def carillonref07_Put.j2 (k : Nat) (x2_1_0 x2_1_1 x2_1_2 x2_1_3 x2_1_4 x2_1_5 x2_1_6 x2_1_7 x2_1_8 x2_1_9 x2_1_10 x2_1_11 x2_1_12 x2_1_13 x2_1_14 x2_1_15 x2_1_16 x2_1_17 x2_1_18 x2_1_19 x2_1_20 x2_1_21 x2_1_22 : Int) (y2_3 : List Int) : Option (List Int) := if x2_1_0 = 2 then (if (y2_3.length + (10 : Int).toNat) * 1 ≤ 140737488355328 then (carillonref07_Put.j3 k (y2_3 ++ List.replicate (10 : Int).toNat 0 : List Int)) else (none)) else (if x2_1_0 = 11 then ((carillonref01_Put.f k x2_1_11 2).bind fun t2012 => (if (y2_3.length + t2012.length) * 1 ≤ 140737488355328 then (if ((y2_3 ++ t2012 : List Int).length + [0, IntKind.u8.wrap x2_1_12].length) * 1 ≤ 140737488355328 then ((carillonref05_Put.f k x2_1_13 x2_1_14 x2_1_15).bind fun t2033 => (if (((y2_3 ++ t2012 : List Int) ++ [0, IntKind.u8.wrap x2_1_12] : List Int).length + t2033.length) * 1 ≤ 140737488355328 then (if ((((y2_3 ++ t2012 : List Int) ++ [0, IntKind.u8.wrap x2_1_12] : List Int) ++ t2033 : List Int).length + [IntKind.u8.wrap x2_1_16].length) * 1 ≤ 140737488355328 then ((carillonref01_PutId.f k x2_1_17).bind fun t2054 => (if (((((y2_3 ++ t2012 : List Int) ++ [0, IntKind.u8.wrap x2_1_12] : List Int) ++ t2033 : List Int) ++ [IntKind.u8.wrap x2_1_16] : List Int).length + t2054.length) * 1 ≤ 140737488355328 then ((carillonref01_Put.f k x2_1_18 2).bind fun t2065 => (if ((((((y2_3 ++ t2012 : List Int) ++ [0, IntKind.u8.wrap x2_1_12] : List Int) ++ t2033 : List Int) ++ [IntKind.u8.wrap x2_1_16] : List Int) ++ t2054 : List Int).length + t2065.length) * 1 ≤ 140737488355328 then (if (((((((y2_3 ++ t2012 : List Int) ++ [0, IntKind.u8.wrap x2_1_12] : List Int) ++ t2033 : List Int) ++ [IntKind.u8.wrap x2_1_16] : List Int) ++ t2054 : List Int) ++ t2065 : List Int).length + [IntKind.u8.wrap x2_1_19].length) * 1 ≤ 140737488355328 then (carillonref07_Put.j3 k (((((((y2_3 ++ t2012 : List Int) ++ [0, IntKind.u8.wrap x2_1_12] : List Int) ++ t2033 : List Int) ++ [IntKind.u8.wrap x2_1_16] : List Int) ++ t2054 : List Int) ++ t2065 : List Int) ++ [IntKind.u8.wrap x2_1_19] : List Int)) else (none)) else (none))) else (none))) else (none)) else (none))) else (none)) else (none))) else (if x2_1_0 = 13 then (if (y2_3.length + [IntKind.u8.wrap x2_1_20, IntKind.u8.wrap x2_1_21, IntKind.u8.wrap x2_1_22, 0].length) * 1 ≤ 140737488355328 then (carillonref07_Put.j3 k (y2_3 ++ [IntKind.u8.wrap x2_1_20, IntKind.u8.wrap x2_1_21, IntKind.u8.wrap x2_1_22, 0] : List Int)) else (none)) else (carillonref07_Put.j3 k y2_3)))
def carillonref07_Put.j1 (k : Nat) (x1_1_0 x1_1_1 x1_1_2 x1_1_3 x1_1_4 x1_1_5 x1_1_6 x1_1_7 x1_1_8 x1_1_9 x1_1_10 x1_1_11 x1_1_12 x1_1_13 x1_1_14 x1_1_15 x1_1_16 x1_1_17 x1_1_18 x1_1_19 x1_1_20 x1_1_21 x1_1_22 : Int) (y1_3 : List Int) : Option (List Int) := (carillonref07_targeted.f x1_1_0).bind fun t1003 => (if t1003 = true then ((carillonref04_Put.f k x1_1_9 x1_1_10).bind fun t1006 => (if (y1_3.length + t1006.length) * 1 ≤ 140737488355328 then (carillonref07_Put.j2 k x1_1_0 x1_1_1 x1_1_2 x1_1_3 x1_1_4 x1_1_5 x1_1_6 x1_1_7 x1_1_8 x1_1_9 x1_1_10 x1_1_11 x1_1_12 x1_1_13 x1_1_14 x1_1_15 x1_1_16 x1_1_17 x1_1_18 x1_1_19 x1_1_20 x1_1_21 x1_1_22 (y1_3 ++ t1006 : List Int)) else (none))) else (carillonref07_Put.j2 k x1_1_0 x1_1_1 x1_1_2 x1_1_3 x1_1_4 x1_1_5 x1_1_6 x1_1_7 x1_1_8 x1_1_9 x1_1_10 x1_1_11 x1_1_12 x1_1_13 x1_1_14 x1_1_15 x1_1_16 x1_1_17 x1_1_18 x1_1_19 x1_1_20 x1_1_21 x1_1_22 y1_3))
def carillonref07_Put.f (k : Nat) (a0_0 a0_1 a0_2 a0_3 a0_4 a0_5 a0_6 a0_7 a0_8 a0_9 a0_10 a0_11 a0_12 a0_13 a0_14 a0_15 a0_16 a0_17 a0_18 a0_19 a0_20 a0_21 a0_22 : Int) : Option (List Int) := (carillonref07_stamped.f a0_0).bind fun t10 => (if t10 = true then ((carillonref02_Put.f k a0_8).bind fun t13 => (if t13.length * 1 ≤ 140737488355328 then (carillonref07_Put.j1 k a0_0 a0_1 a0_2 a0_3 a0_4 a0_5 a0_6 a0_7 a0_8 a0_9 a0_10 a0_11 a0_12 a0_13 a0_14 a0_15 a0_16 a0_17 a0_18 a0_19 a0_20 a0_21 a0_22 t13) else (none))) else (carillonref07_Put.j1 k a0_0 a0_1 a0_2 a0_3 a0_4 a0_5 a0_6 a0_7 a0_8 a0_9 a0_10 a0_11 a0_12 a0_13 a0_14 a0_15 a0_16 a0_17 a0_18 a0_19 a0_20 a0_21 a0_22 []))
abbrev carillonref07_Put.v0 (x0 x1 x2 x3 x4 x5 x6 x7 x8 x9 x10 x11 x12 x13 x14 x15 x16 x17 x18 x19 x20 x21 x22 : Int) : Value := .agg #[.int .i64 x0, .int .i64 x1, .int .i64 x2, .int .i64 x3, .int .u64 x4, .int .i64 x5, .int .i64 x6, .int .i64 x7, .int .i64 x8, .int .u64 x9, .int .i64 x10, .int .i64 x11, .int .i64 x12, .int .i64 x13, .int .i64 x14, .int .i64 x15, .int .i64 x16, .int .u64 x17, .int .i64 x18, .int .i64 x19, .int .i64 x20, .int .i64 x21, .int .i64 x22]
abbrev carillonref07_Put.c1 (x0 x1 x2 x3 x4 x5 x6 x7 x8 x9 x10 x11 x12 x13 x14 x15 x16 x17 x18 x19 x20 x21 x22 : Int) : Array Value := #[.int .i64 x0, .int .i64 x1, .int .i64 x2, .int .i64 x3, .int .u64 x4, .int .i64 x5, .int .i64 x6, .int .i64 x7, .int .i64 x8, .int .u64 x9, .int .i64 x10, .int .i64 x11, .int .i64 x12, .int .i64 x13, .int .i64 x14, .int .i64 x15, .int .i64 x16, .int .u64 x17, .int .i64 x18, .int .i64 x19, .int .i64 x20, .int .i64 x21, .int .i64 x22]
open Go.Proofs.Ytiomlbkakiienaa.E in
set_option maxHeartbeats 60000000 in
set_option maxRecDepth 100000 in
theorem carillonref07_Put.calls (k : Nat) (bc da db dc dd de df dg b4 dh cg ch ci cj ck cl cm cn co cp cq cr ct : Int) (r : List Int) (w : World) (h : carillonref07_Put.f k bc da db dc dd de df dg b4 dh cg ch ci cj ck cl cm cn co cp cq cr ct = some r) :
    Calls Try.prog 27 #[.agg #[.int .i64 bc, .int .i64 da, .int .i64 db, .int .i64 dc, .int .u64 dd, .int .i64 de, .int .i64 df, .int .i64 dg, .int .i64 b4, .int .u64 dh, .int .i64 cg, .int .i64 ch, .int .i64 ci, .int .i64 cj, .int .i64 ck, .int .i64 cl, .int .i64 cm, .int .u64 cn, .int .i64 co, .int .i64 cp, .int .i64 cq, .int .i64 cr, .int .i64 ct]] w fun e w' => ∃ v0_ : Value, e = .returned v0_ ∧ Kd.R (Kd.int .u8) 5 w' w.heap.size (fun _ => True) v0_ r ∧ Below w.heap.size w w' := by
 have H := h
 clear h
 unfold carillonref07_Put.f at H
 refine calls_of_wp (fn := Try.f27) (by kernel_rfl) rfl ?_
 have hS := St.enter #[(carillonref07_Put.v0 bc da db dc dd de df dg b4 dh cg ch ci cj ck cl cm cn co cp cq cr ct)] 81 (by simp) [(0, (carillonref07_Put.v0 bc da db dc dd de df dg b4 dh cg ch ci cj ck cl cm cn co cp cq cr ct))] (by simp)
 have f5 := Below.refl w.heap.size w
 refine wp_seq_k (fun K1 gz => ?_)
 refine reg_seq (I := I1_ w) (ps := [IsB (carillonref07_Put.c1 bc da db dc dd de df dg b4 dh cg ch ci cj ck cl cm cn co cp cq cr ct) 28 w.heap.size, IsV (.slice none 0 0)]) (by kernel_rfl) ?_ ?_ rfl hS f5 ?_ ?_
 ·exact bs1
 ·exact .cons (Stays.b _ _ _) (.v (.nil))
 ·refine .on rfl (fun a w hS hI hp => does_var (x_box rfl (congrArg Value.cells (hS.get 0 rfl))) (hI).size) ?_
  refine .on rfl (fun a w hS hI hp => does_val (x_assign rfl (rfl)) rfl) ?_
  exact .nil
 clear hS
 intro hR w3 hS hh hp
 replace hS := hS.nil
 obtain ⟨g4, fT, eb, aE⟩ := (show IsB _ 28 _ (sl _ 1) _ from hp 0 (by decide))
 have hS := hS.cons fT
 clear hp fT
 refine gz _ _ ?_
 refine wp_seq_k (fun K5 gA => ?_)
 refine reg_seq (I := I2_ w w3) (ps := [IsV (.slice none 0 0)]) (by kernel_rfl) ?_ ?_ rfl hS ⟨hh, (bR w3)⟩ ?_ ?_
 ·exact bs2
 ·exact .v (.nil)
 ·refine .on rfl (fun a w hS hI hp => does_val (x_assign rfl (rfl)) rfl) ?_
  exact .nil
 clear hS
 intro hT w7 hS ec hp
 have fV : sl _ 3 = .slice none 0 0 := hp 0 (by decide)
 have hS := hS.cons fV
 clear hp fV
 refine gA _ _ ?_
 refine wp_seq_k (fun K8 gB => ?_)
 have J1 : ∀ (es : Act) (bJ : World) (aC bh bi bj bk bl bm bn bo aG ay aT aU aV aW aX aY aZ a0 a1 a2 a3 a4 : Int) (ap : Nat) (aw : List Int) (bv : Option Addr) (a8 : Nat), carillonref07_Put.j1 k aC bh bi bj bk bl bm bn bo aG ay aT aU aV aW aX aY aZ a0 a1 a2 a3 a4 aw = some r → St 81 [(1, .pointer (some ⟨ap, 0, none⟩)), (3, .slice bv aw.length a8)] es → Below w.heap.size w bJ → w.heap.size ≤ ap → bJ.heap[ap]? = some (.cells (carillonref07_Put.c1 aC bh bi bj bk bl bm bn bo aG ay aT aU aV aW aX aY aZ a0 a1 a2 a3 a4) 28 (0, 0)) → aw.length ≤ a8 → Kd.R (Kd.int .u8) 5 bJ w.heap.size (fun _ => True) (.slice bv aw.length a8) aw → K8 es bJ := by
  intro es bJ aC bh bi bj bk bl bm bn bo aG ay aT aU aV aW aX aY aZ a0 a1 a2 a3 a4 ap aw bv a8 H hS cW b6 ao fL dU
  unfold carillonref07_Put.j1 at H
  (try dsimp only at H)
  refine gB _ _ ?_
  refine wp_seq_k (fun fI ey => ?_)
  have J2 : ∀ (et : Act) (aq : World) (af cN cO cP cQ cR cS cT cU cV b5 a5 aa aI aJ aK ad a6 a7 aj ak al am : Int) (ae : Nat) (ab : List Int) (aD : Option Addr) (az : Nat), carillonref07_Put.j2 k af cN cO cP cQ cR cS cT cU cV b5 a5 aa aI aJ aK ad a6 a7 aj ak al am ab = some r → St 81 [(1, .pointer (some ⟨ae, 0, none⟩)), (3, .slice aD ab.length az)] et → Below w.heap.size w aq → w.heap.size ≤ ae → aq.heap[ae]? = some (.cells (carillonref07_Put.c1 af cN cO cP cQ cR cS cT cU cV b5 a5 aa aI aJ aK ad a6 a7 aj ak al am) 28 (0, 0)) → ab.length ≤ az → Kd.R (Kd.int .u8) 5 aq w.heap.size (fun _ => True) (.slice aD ab.length az) ab → fI et aq := by
   intro et aq af cN cO cP cQ cR cS cT cU cV b5 a5 aa aI aJ aK ad a6 a7 aj ak al am ae ab aD az H hS bD fS ah fM b0
   unfold carillonref07_Put.j2 at H
   (try dsimp only at H)
   refine ey _ _ ?_
   refine wp_seq_k (fun fK ez => ?_)
   have J3 : ∀ (eu : Act) (cY : World) (aP : List Int) (aQ : Option Addr) (aH : Nat), carillonref07_Put.j3 k aP = some r → St 81 [(3, .slice aQ aP.length aH)] eu → Below w.heap.size w cY → aP.length ≤ aH → Kd.R (Kd.int .u8) 5 cY w.heap.size (fun _ => True) (.slice aQ aP.length aH) aP → fK eu cY := by
    intro eu cY aP aQ aH H hS el hD eU
    unfold carillonref07_Put.j3 at H
    (try dsimp only at H)
    obtain rfl := Option.some.inj H
    refine ez _ _ ?_
    refine wp_seq_k (fun hC eF => ?_)
    refine reg_seq (I := I2_ w cY) (ps := [IsV (.slice aQ aP.length aH), IsV (.slice aQ aP.length aH)]) (by kernel_rfl) ?_ ?_ rfl hS ⟨el, (bR cY)⟩ ?_ ?_
    ·exact bs2
    ·exact .v (.v (.nil))
    ·refine .ms 0 rfl rfl rfl ?_
     refine .asg 0 rfl rfl rfl ?_
     exact .nil
    clear hS
    intro gy hJ hS dW hp
    replace hS := hS.nil
    have fU : sl _ 2 = .slice aQ aP.length aH := hp 1 (by decide)
    have hS := hS.cons fU
    clear hp fU
    refine eF _ _ ?_
    refine wp_ret ?_
    (try simp only [Exit.then, Exit.inBlock, Exit.jump, Exit.noGoto])
    exact bodyPost_ret (v := .slice aQ aP.length aH) (results_single rfl (Vals.at (hS.get 0 rfl) .nil)) hS.nodef ⟨.slice aQ aP.length aH, rfl, Kd.R_lower (Kd.R_below eU dW.2) (Nat.le_refl _), dW.1⟩
   by_cases c1 : af = 2
   ·rw [if_pos c1] at H
    by_cases c2 : (ab.length + (10 : Int).toNat) * 1 ≤ 140737488355328
    rotate_left
    ·rw [if_neg c2] at H
     exact absurd H (by simp)
    rw [if_pos c2] at H
    refine wp_seq_k (fun cZ aL => ?_)
    refine reg_seq (I := I2_ w aq) (ps := [VP ae 0, VI af]) (by kernel_rfl) ?_ ?_ rfl hS ⟨bD, (bR aq)⟩ ?_ ?_
    ·exact bs2
    ·exact .v (.v (.nil))
    ·refine .on rfl (fun a w hS hI hp => does_val (x_fieldE (b := 0) rfl (hS.get 0 rfl) Try.underlying28 rfl rfl (by kernel_rfl)) rfl) ?_
     refine .on rfl (fun a w hS hI hp => does_val (x_load1 (d := .int .i64) rfl (hp.V 0 rfl rfl) (by kernel_rfl) rfl ((blk_cell (((hI.2).block ae (blk_lt ah)).trans ah) 0).trans rfl)) rfl) ?_
     exact .nil
    clear hS
    intro cv aA hS ar hp
    have aN : sl _ 21 = .int .i64 af := hp 1 (by decide)
    have hS := hS.cons aN
    clear hp aN
    refine aL _ _ ?_
    refine wp_block ?_
    refine wp_seq_k (fun c0 aM => ?_)
    refine reg_seq (I := I3_ w aq aA) (ps := [VB (decide (af = 2)), VB (decide (af = 2))]) (by kernel_rfl) ?_ ?_ rfl hS ⟨ar.1, ar.2, (bR aA)⟩ ?_ ?_
    ·exact bs3
    ·exact .v (.v (.nil))
    ·refine .on rfl (fun a w hS hI hp => does_val (x_bin rfl (hS.get 0 rfl) (rfl) (b_eql _ _ _ _ _ _)) rfl) ?_
     refine .asg 0 rfl rfl rfl ?_
     exact .nil
    clear hS
    intro cw aB hS au hp
    have aO : sl _ 22 = .bool (decide (af = 2)) := hp 1 (by decide)
    have hS := hS.cons aO
    clear hp aO
    refine aM _ _ ?_
    refine wp_cond_true ((hS.get 0 rfl).trans (bT (decide_eq_true c1))) ?_
    refine reg_seq_tail 1 (I := I3_ w aq aB) (ps := [IsV (.slice aD ab.length az)]) (by kernel_rfl) ?_ ?_ rfl hS ⟨au.1, au.2.1, (bR aB)⟩ ?_ ?_
    ·exact bs3
    ·exact .v (.nil)
    ·refine .ms 3 rfl rfl rfl ?_
     exact .nil
    clear hS
    intro f9 hF hS cC hp
    replace hS := (hS.nil).cons (hS.get 3 rfl)
    have e6 : sl _ 24 = .slice aD ab.length az := hp 0 (by decide)
    have hS := hS.cons e6
    clear hp e6
    show wpList _ _ _ [_, _] _ _
    refine list_step rfl (does_zeros (ki := .i64) (W := w) (.tmp 24) _ 36 3 5 1 rfl (by kernel_rfl) (by kernel_rfl) (by kernel_rfl) (by decide) _ ab 10 (hS.get 0 rfl) (rfl) (Kd.R_below b0 cC.2.1) cC.1 (by decide) c2) ?_
    rintro hj av ⟨hb, hr, hk⟩
    have g1 := hk ae _ _ ((cC.2.1.block ae (blk_lt ah)).trans ah) (by decide)
    clear hk
    have dA := hb
    replace hS := hS.nil
    obtain ⟨bL, bP, rfl, eR, gD⟩ := Kd.R_reads hr
    have eW := hr
    clear hr
    refine hS.next (v := .slice bL ((ab ++ List.replicate (10 : Int).toNat 0 : List Int).length) bP) (d := 25) rfl (by decide) (by rfl) ?_
    clear hS
    intro ex hS
    refine list_step rfl (R := fun v w' => Below _ _ w' ∧ (IsV (.slice bL ((ab ++ List.replicate (10 : Int).toNat 0 : List Int).length) bP)) v w') (does_val (x_assign rfl (hS.get 0 rfl)) rfl) ?_
    rintro fg cu ⟨hb, he⟩
    have dB := below_step dA hb
    have b7 := below_step (bR av) hb
    obtain rfl : fg = .slice bL ((ab ++ List.replicate (10 : Int).toNat 0 : List Int).length) bP := he
    refine hS.next (v := .slice bL ((ab ++ List.replicate (10 : Int).toNat 0 : List Int).length) bP) (d := 3) rfl (by decide) (by rfl) ?_
    clear hS
    intro gb hS
    refine wpList_nil ?_
    replace hS := (hS.nil).cons (hS.get 0 rfl)
    (try simp only [Exit.then, Exit.inBlock])
    exact J3 _ _ (ab ++ List.replicate (10 : Int).toNat 0 : List Int) bL bP H hS dB eR (Kd.R_lower (Kd.R_below eW b7) (Nat.le_refl _))
   rw [if_neg c1] at H
   by_cases c2 : af = 11
   rotate_left
   ·rw [if_neg c2] at H
    by_cases c3 : af = 13
    rotate_left
    ·rw [if_neg c3] at H
     refine wp_seq_k (fun cZ aL => ?_)
     refine reg_seq (I := I2_ w aq) (ps := [VP ae 0, VI af]) (by kernel_rfl) ?_ ?_ rfl hS ⟨bD, (bR aq)⟩ ?_ ?_
     ·exact bs2
     ·exact .v (.v (.nil))
     ·refine .on rfl (fun a w hS hI hp => does_val (x_fieldE (b := 0) rfl (hS.get 0 rfl) Try.underlying28 rfl rfl (by kernel_rfl)) rfl) ?_
      refine .on rfl (fun a w hS hI hp => does_val (x_load1 (d := .int .i64) rfl (hp.V 0 rfl rfl) (by kernel_rfl) rfl ((blk_cell (((hI.2).block ae (blk_lt ah)).trans ah) 0).trans rfl)) rfl) ?_
      exact .nil
     clear hS
     intro cv aA hS ar hp
     have aN : sl _ 21 = .int .i64 af := hp 1 (by decide)
     have hS := hS.cons aN
     clear hp aN
     refine aL _ _ ?_
     refine wp_block ?_
     refine wp_seq_k (fun c0 aM => ?_)
     refine reg_seq (I := I3_ w aq aA) (ps := [VB (decide (af = 2)), VB (decide (af = 2))]) (by kernel_rfl) ?_ ?_ rfl hS ⟨ar.1, ar.2, (bR aA)⟩ ?_ ?_
     ·exact bs3
     ·exact .v (.v (.nil))
     ·refine .on rfl (fun a w hS hI hp => does_val (x_bin rfl (hS.get 0 rfl) (rfl) (b_eql _ _ _ _ _ _)) rfl) ?_
      refine .asg 0 rfl rfl rfl ?_
      exact .nil
     clear hS
     intro cw aB hS au hp
     have aO : sl _ 22 = .bool (decide (af = 2)) := hp 1 (by decide)
     have hS := hS.cons aO
     clear hp aO
     refine aM _ _ ?_
     refine wp_cond_false ((hS.get 0 rfl).trans (bF (decide_eq_false c1))) ?_
     refine wp_seq_k (fun d9 bd => ?_)
     refine reg_seq (I := I3_ w aq aB) (ps := [VB (decide (af = 11)), VB (decide (af = 11))]) (by kernel_rfl) ?_ ?_ rfl hS ⟨au.1, au.2.1, (bR aB)⟩ ?_ ?_
     ·exact bs3
     ·exact .v (.v (.nil))
     ·refine .on rfl (fun a w hS hI hp => does_val (x_bin rfl (hS.get 1 rfl) (rfl) (b_eql _ _ _ _ _ _)) rfl) ?_
      refine .asg 0 rfl rfl rfl ?_
      exact .nil
     clear hS
     intro dv av hS aF hp
     replace hS := (((hS.nil).cons (hS.get 3 rfl)).cons (hS.get 2 rfl)).cons (hS.get 1 rfl)
     have bf : sl _ 26 = .bool (decide (af = 11)) := hp 1 (by decide)
     have hS := hS.cons bf
     clear hp bf
     refine bd _ _ ?_
     refine wp_cond_false ((hS.get 0 rfl).trans (bF (decide_eq_false c2))) ?_
     refine wp_seq_k (fun ea be => ?_)
     refine reg_seq (I := I3_ w aq av) (ps := [VB (decide (af = 13)), VB (decide (af = 13))]) (by kernel_rfl) ?_ ?_ rfl hS ⟨aF.1, aF.2.1, (bR av)⟩ ?_ ?_
     ·exact bs3
     ·exact .v (.v (.nil))
     ·refine .on rfl (fun a w hS hI hp => does_val (x_bin rfl (hS.get 1 rfl) (rfl) (b_eql _ _ _ _ _ _)) rfl) ?_
      refine .asg 0 rfl rfl rfl ?_
      exact .nil
     clear hS
     intro ew ba hS bg hp
     replace hS := ((hS.nil).cons (hS.get 3 rfl)).cons (hS.get 2 rfl)
     have cz : sl _ 66 = .bool (decide (af = 13)) := hp 1 (by decide)
     have hS := hS.cons cz
     clear hp cz
     refine be _ _ ?_
     refine wp_cond_false ((hS.get 0 rfl).trans (bF (decide_eq_false c3))) ?_
     refine wp_skip ?_
     replace hS := (hS.nil).cons (hS.get 2 rfl)
     (try simp only [Exit.then, Exit.inBlock])
     exact J3 _ _ ab aD az H hS bg.1 fM (Kd.R_lower (Kd.R_below b0 bg.2.1) (Nat.le_refl _))
    rw [if_pos c3] at H
    by_cases c4 : (ab.length + [IntKind.u8.wrap ak, IntKind.u8.wrap al, IntKind.u8.wrap am, 0].length) * 1 ≤ 140737488355328
    rotate_left
    ·rw [if_neg c4] at H
     exact absurd H (by simp)
    rw [if_pos c4] at H
    refine wp_seq_k (fun cZ aL => ?_)
    refine reg_seq (I := I2_ w aq) (ps := [VP ae 0, VI af]) (by kernel_rfl) ?_ ?_ rfl hS ⟨bD, (bR aq)⟩ ?_ ?_
    ·exact bs2
    ·exact .v (.v (.nil))
    ·refine .on rfl (fun a w hS hI hp => does_val (x_fieldE (b := 0) rfl (hS.get 0 rfl) Try.underlying28 rfl rfl (by kernel_rfl)) rfl) ?_
     refine .on rfl (fun a w hS hI hp => does_val (x_load1 (d := .int .i64) rfl (hp.V 0 rfl rfl) (by kernel_rfl) rfl ((blk_cell (((hI.2).block ae (blk_lt ah)).trans ah) 0).trans rfl)) rfl) ?_
     exact .nil
    clear hS
    intro cv aA hS ar hp
    have aN : sl _ 21 = .int .i64 af := hp 1 (by decide)
    have hS := hS.cons aN
    clear hp aN
    refine aL _ _ ?_
    refine wp_block ?_
    refine wp_seq_k (fun c0 aM => ?_)
    refine reg_seq (I := I3_ w aq aA) (ps := [VB (decide (af = 2)), VB (decide (af = 2))]) (by kernel_rfl) ?_ ?_ rfl hS ⟨ar.1, ar.2, (bR aA)⟩ ?_ ?_
    ·exact bs3
    ·exact .v (.v (.nil))
    ·refine .on rfl (fun a w hS hI hp => does_val (x_bin rfl (hS.get 0 rfl) (rfl) (b_eql _ _ _ _ _ _)) rfl) ?_
     refine .asg 0 rfl rfl rfl ?_
     exact .nil
    clear hS
    intro cw aB hS au hp
    have aO : sl _ 22 = .bool (decide (af = 2)) := hp 1 (by decide)
    have hS := hS.cons aO
    clear hp aO
    refine aM _ _ ?_
    refine wp_cond_false ((hS.get 0 rfl).trans (bF (decide_eq_false c1))) ?_
    refine wp_seq_k (fun d9 bd => ?_)
    refine reg_seq (I := I3_ w aq aB) (ps := [VB (decide (af = 11)), VB (decide (af = 11))]) (by kernel_rfl) ?_ ?_ rfl hS ⟨au.1, au.2.1, (bR aB)⟩ ?_ ?_
    ·exact bs3
    ·exact .v (.v (.nil))
    ·refine .on rfl (fun a w hS hI hp => does_val (x_bin rfl (hS.get 1 rfl) (rfl) (b_eql _ _ _ _ _ _)) rfl) ?_
     refine .asg 0 rfl rfl rfl ?_
     exact .nil
    clear hS
    intro dv av hS aF hp
    replace hS := (((hS.nil).cons (hS.get 3 rfl)).cons (hS.get 2 rfl)).cons (hS.get 1 rfl)
    have bf : sl _ 26 = .bool (decide (af = 11)) := hp 1 (by decide)
    have hS := hS.cons bf
    clear hp bf
    refine bd _ _ ?_
    refine wp_cond_false ((hS.get 0 rfl).trans (bF (decide_eq_false c2))) ?_
    refine wp_seq_k (fun ea be => ?_)
    refine reg_seq (I := I3_ w aq av) (ps := [VB (decide (af = 13)), VB (decide (af = 13))]) (by kernel_rfl) ?_ ?_ rfl hS ⟨aF.1, aF.2.1, (bR av)⟩ ?_ ?_
    ·exact bs3
    ·exact .v (.v (.nil))
    ·refine .on rfl (fun a w hS hI hp => does_val (x_bin rfl (hS.get 1 rfl) (rfl) (b_eql _ _ _ _ _ _)) rfl) ?_
     refine .asg 0 rfl rfl rfl ?_
     exact .nil
    clear hS
    intro ew ba hS bg hp
    replace hS := ((hS.nil).cons (hS.get 3 rfl)).cons (hS.get 2 rfl)
    have cz : sl _ 66 = .bool (decide (af = 13)) := hp 1 (by decide)
    have hS := hS.cons cz
    clear hp cz
    refine be _ _ ?_
    refine wp_cond_true ((hS.get 0 rfl).trans (bT (decide_eq_true c3))) ?_
    refine reg_seq_tail 11 (I := I3_ w aq ba) (ps := [IsV (.slice aD ab.length az), VP ae 20, VI ak, IsV (.int .u8 (IntKind.u8.wrap ak)), VP ae 21, VI al, IsV (.int .u8 (IntKind.u8.wrap al)), VP ae 22, VI am, IsV (.int .u8 (IntKind.u8.wrap am)), IsR (Kd.int .u8) 5 ba.heap.size [IntKind.u8.wrap ak, IntKind.u8.wrap al, IntKind.u8.wrap am, 0]]) (by kernel_rfl) ?_ ?_ rfl hS ⟨bg.1, bg.2.1, (bR ba)⟩ ?_ ?_
    ·exact bs3
    ·exact .v (.v (.v (.v (.v (.v (.v (.v (.v (.v (.cons (Stays.r _ _ _ _) (.nil)))))))))))
    ·refine .ms 2 rfl rfl rfl ?_
     refine .on rfl (fun a w hS hI hp => does_val (x_fieldE (b := 0) rfl (hS.get 1 rfl) Try.underlying28 rfl rfl (by kernel_rfl)) rfl) ?_
     refine .on rfl (fun a w hS hI hp => does_val (x_load1 (d := .int .i64) rfl (hp.V 1 rfl rfl) (by kernel_rfl) rfl ((blk_cell (((hI.2.1).block ae (blk_lt ah)).trans ah) 20).trans rfl)) rfl) ?_
     refine .on rfl (fun a w hS hI hp => does_val (x_convI rfl (by kernel_rfl) (by kernel_rfl) (hp.V 2 rfl rfl)) rfl) ?_
     refine .on rfl (fun a w hS hI hp => does_val (x_fieldE (b := 0) rfl (hS.get 1 rfl) Try.underlying28 rfl rfl (by kernel_rfl)) rfl) ?_
     refine .on rfl (fun a w hS hI hp => does_val (x_load1 (d := .int .i64) rfl (hp.V 4 rfl rfl) (by kernel_rfl) rfl ((blk_cell (((hI.2.1).block ae (blk_lt ah)).trans ah) 21).trans rfl)) rfl) ?_
     refine .on rfl (fun a w hS hI hp => does_val (x_convI rfl (by kernel_rfl) (by kernel_rfl) (hp.V 5 rfl rfl)) rfl) ?_
     refine .on rfl (fun a w hS hI hp => does_val (x_fieldE (b := 0) rfl (hS.get 1 rfl) Try.underlying28 rfl rfl (by kernel_rfl)) rfl) ?_
     refine .on rfl (fun a w hS hI hp => does_val (x_load1 (d := .int .i64) rfl (hp.V 7 rfl rfl) (by kernel_rfl) rfl ((blk_cell (((hI.2.1).block ae (blk_lt ah)).trans ah) 22).trans rfl)) rfl) ?_
     refine .on rfl (fun a w hS hI hp => does_val (x_convI rfl (by kernel_rfl) (by kernel_rfl) (hp.V 8 rfl rfl)) rfl) ?_
     refine .on rfl (fun a w hS hI hp => does_lit ba.heap.size 36 5 4 _ [(0, .int .u8 (IntKind.u8.wrap ak)), (1, .int .u8 (IntKind.u8.wrap al)), (2, .int .u8 (IntKind.u8.wrap am)), (3, .int .u8 0)] [IntKind.u8.wrap ak, IntKind.u8.wrap al, IntKind.u8.wrap am, 0] rfl (by kernel_rfl) (by rw [Array.toList_map]; exact (show [(0, a.eval (.tmp 71)), (1, a.eval (.tmp 74)), (2, a.eval (.tmp 77)), (3, a.eval (.const (.int .u8 0)))] = _ from (li_cons (hp.V 3 rfl rfl) (li_cons (hp.V 6 rfl rfl) (li_cons (hp.V 9 rfl rfl) (li_cons (rfl) rfl)))))) (by kernel_rfl) rfl (hI.2.2).size (Nat.le_of_ble_eq_true rfl)) ?_
     exact .nil
    clear hS
    intro ga dk hS cE hp
    replace hS := (hS.nil).cons (hS.get 2 rfl)
    have fe : sl _ 68 = .slice aD ab.length az := hp 0 (by decide)
    obtain ⟨fs, fB, d8, gO, eJ⟩ := Kd.R_reads (show Kd.R (Kd.int .u8) 5 dk ba.heap.size (fun _ => True) (sl _ 78) [IntKind.u8.wrap ak, IntKind.u8.wrap al, IntKind.u8.wrap am, 0] from hp 10 (by decide))
    have g7 : Kd.R (Kd.int .u8) 5 dk ba.heap.size (fun _ => True) (.slice fs [IntKind.u8.wrap ak, IntKind.u8.wrap al, IntKind.u8.wrap am, 0].length fB) [IntKind.u8.wrap ak, IntKind.u8.wrap al, IntKind.u8.wrap am, 0] := d8 ▸ (hp 10 (by decide))
    have hS := hS.cons fe
    have hS := hS.cons d8
    clear hp fe d8
    show wpList _ _ _ [_, _] _ _
    refine list_step rfl (does_more (W := w) (.tmp 68) (.tmp 78) 36 5 1 rfl (by kernel_rfl) (by kernel_rfl) (by decide) _ ab [IntKind.u8.wrap ak, IntKind.u8.wrap al, IntKind.u8.wrap am, 0] _ _ (hS.get 1 rfl) (hS.get 0 rfl) (Kd.R_below b0 cE.2.1) (Kd.C_below eJ (bR dk)) cE.1 c4) ?_
    rintro hm fO ⟨hb, hr, hk⟩
    have g2 := hk ae _ _ ((cE.2.1.block ae (blk_lt ah)).trans ah) (by decide)
    clear hk
    have dD := hb
    replace hS := hS.nil
    obtain ⟨bM, bQ, rfl, eS, gF⟩ := Kd.R_reads hr
    have eY := hr
    clear hr
    refine hS.next (v := .slice bM ((ab ++ [IntKind.u8.wrap ak, IntKind.u8.wrap al, IntKind.u8.wrap am, 0] : List Int).length) bQ) (d := 79) rfl (by decide) (by rfl) ?_
    clear hS
    intro gd hS
    refine list_step rfl (R := fun v w' => Below _ _ w' ∧ (IsV (.slice bM ((ab ++ [IntKind.u8.wrap ak, IntKind.u8.wrap al, IntKind.u8.wrap am, 0] : List Int).length) bQ)) v w') (does_val (x_assign rfl (hS.get 0 rfl)) rfl) ?_
    rintro fi hG ⟨hb, he⟩
    have dF := below_step dD hb
    have b9 := below_step (bR fO) hb
    obtain rfl : fi = .slice bM ((ab ++ [IntKind.u8.wrap ak, IntKind.u8.wrap al, IntKind.u8.wrap am, 0] : List Int).length) bQ := he
    refine hS.next (v := .slice bM ((ab ++ [IntKind.u8.wrap ak, IntKind.u8.wrap al, IntKind.u8.wrap am, 0] : List Int).length) bQ) (d := 3) rfl (by decide) (by rfl) ?_
    clear hS
    intro gf hS
    refine wpList_nil ?_
    replace hS := (hS.nil).cons (hS.get 0 rfl)
    (try simp only [Exit.then, Exit.inBlock])
    exact J3 _ _ (ab ++ [IntKind.u8.wrap ak, IntKind.u8.wrap al, IntKind.u8.wrap am, 0] : List Int) bM bQ H hS dF eS (Kd.R_lower (Kd.R_below eY b9) (Nat.le_refl _))
   rw [if_pos c2] at H
   obtain ⟨ac, eo, H⟩ := Option.bind_eq_some_iff.mp H
   by_cases c3 : (ab.length + ac.length) * 1 ≤ 140737488355328
   rotate_left
   ·rw [if_neg c3] at H
    exact absurd H (by simp)
   rw [if_pos c3] at H
   by_cases c4 : ((ab ++ ac : List Int).length + [0, IntKind.u8.wrap aa].length) * 1 ≤ 140737488355328
   rotate_left
   ·rw [if_neg c4] at H
    exact absurd H (by simp)
   rw [if_pos c4] at H
   obtain ⟨ag, ep, H⟩ := Option.bind_eq_some_iff.mp H
   by_cases c5 : (((ab ++ ac : List Int) ++ [0, IntKind.u8.wrap aa] : List Int).length + ag.length) * 1 ≤ 140737488355328
   rotate_left
   ·rw [if_neg c5] at H
    exact absurd H (by simp)
   rw [if_pos c5] at H
   by_cases c6 : ((((ab ++ ac : List Int) ++ [0, IntKind.u8.wrap aa] : List Int) ++ ag : List Int).length + [IntKind.u8.wrap ad].length) * 1 ≤ 140737488355328
   rotate_left
   ·rw [if_neg c6] at H
    exact absurd H (by simp)
   rw [if_pos c6] at H
   obtain ⟨ai, eq, H⟩ := Option.bind_eq_some_iff.mp H
   by_cases c7 : (((((ab ++ ac : List Int) ++ [0, IntKind.u8.wrap aa] : List Int) ++ ag : List Int) ++ [IntKind.u8.wrap ad] : List Int).length + ai.length) * 1 ≤ 140737488355328
   rotate_left
   ·rw [if_neg c7] at H
    exact absurd H (by simp)
   rw [if_pos c7] at H
   obtain ⟨an, er, H⟩ := Option.bind_eq_some_iff.mp H
   by_cases c8 : ((((((ab ++ ac : List Int) ++ [0, IntKind.u8.wrap aa] : List Int) ++ ag : List Int) ++ [IntKind.u8.wrap ad] : List Int) ++ ai : List Int).length + an.length) * 1 ≤ 140737488355328
   rotate_left
   ·rw [if_neg c8] at H
    exact absurd H (by simp)
   rw [if_pos c8] at H
   by_cases c9 : (((((((ab ++ ac : List Int) ++ [0, IntKind.u8.wrap aa] : List Int) ++ ag : List Int) ++ [IntKind.u8.wrap ad] : List Int) ++ ai : List Int) ++ an : List Int).length + [IntKind.u8.wrap aj].length) * 1 ≤ 140737488355328
   rotate_left
   ·rw [if_neg c9] at H
    exact absurd H (by simp)
   rw [if_pos c9] at H
   refine wp_seq_k (fun cZ aL => ?_)
   refine reg_seq (I := I2_ w aq) (ps := [VP ae 0, VI af]) (by kernel_rfl) ?_ ?_ rfl hS ⟨bD, (bR aq)⟩ ?_ ?_
   ·exact bs2
   ·exact .v (.v (.nil))
   ·refine .on rfl (fun a w hS hI hp => does_val (x_fieldE (b := 0) rfl (hS.get 0 rfl) Try.underlying28 rfl rfl (by kernel_rfl)) rfl) ?_
    refine .on rfl (fun a w hS hI hp => does_val (x_load1 (d := .int .i64) rfl (hp.V 0 rfl rfl) (by kernel_rfl) rfl ((blk_cell (((hI.2).block ae (blk_lt ah)).trans ah) 0).trans rfl)) rfl) ?_
    exact .nil
   clear hS
   intro cv aA hS ar hp
   have aN : sl _ 21 = .int .i64 af := hp 1 (by decide)
   have hS := hS.cons aN
   clear hp aN
   refine aL _ _ ?_
   refine wp_block ?_
   refine wp_seq_k (fun c0 aM => ?_)
   refine reg_seq (I := I3_ w aq aA) (ps := [VB (decide (af = 2)), VB (decide (af = 2))]) (by kernel_rfl) ?_ ?_ rfl hS ⟨ar.1, ar.2, (bR aA)⟩ ?_ ?_
   ·exact bs3
   ·exact .v (.v (.nil))
   ·refine .on rfl (fun a w hS hI hp => does_val (x_bin rfl (hS.get 0 rfl) (rfl) (b_eql _ _ _ _ _ _)) rfl) ?_
    refine .asg 0 rfl rfl rfl ?_
    exact .nil
   clear hS
   intro cw aB hS au hp
   have aO : sl _ 22 = .bool (decide (af = 2)) := hp 1 (by decide)
   have hS := hS.cons aO
   clear hp aO
   refine aM _ _ ?_
   refine wp_cond_false ((hS.get 0 rfl).trans (bF (decide_eq_false c1))) ?_
   refine wp_seq_k (fun d9 bd => ?_)
   refine reg_seq (I := I3_ w aq aB) (ps := [VB (decide (af = 11)), VB (decide (af = 11))]) (by kernel_rfl) ?_ ?_ rfl hS ⟨au.1, au.2.1, (bR aB)⟩ ?_ ?_
   ·exact bs3
   ·exact .v (.v (.nil))
   ·refine .on rfl (fun a w hS hI hp => does_val (x_bin rfl (hS.get 1 rfl) (rfl) (b_eql _ _ _ _ _ _)) rfl) ?_
    refine .asg 0 rfl rfl rfl ?_
    exact .nil
   clear hS
   intro dv av hS aF hp
   replace hS := (((hS.nil).cons (hS.get 3 rfl)).cons (hS.get 2 rfl)).cons (hS.get 1 rfl)
   have bf : sl _ 26 = .bool (decide (af = 11)) := hp 1 (by decide)
   have hS := hS.cons bf
   clear hp bf
   refine bd _ _ ?_
   refine wp_cond_true ((hS.get 0 rfl).trans (bT (decide_eq_true c2))) ?_
   refine wp_seq_k (fun ea be => ?_)
   refine reg_seq_tail 4 (I := I3_ w aq av) (ps := [IsV (.slice aD ab.length az), VP ae 11, VI a5, IsR (Kd.int .u8) 5 av.heap.size ac]) (by kernel_rfl) ?_ ?_ rfl hS ⟨aF.1, aF.2.1, (bR av)⟩ ?_ ?_
   ·exact bs3
   ·exact .v (.v (.v (.cons (Stays.r _ _ _ _) (.nil))))
   ·refine .ms 3 rfl rfl rfl ?_
    refine .on rfl (fun a w hS hI hp => does_val (x_fieldE (b := 0) rfl (hS.get 2 rfl) Try.underlying28 rfl rfl (by kernel_rfl)) rfl) ?_
    refine .on rfl (fun a w hS hI hp => does_val (x_load1 (d := .int .i64) rfl (hp.V 1 rfl rfl) (by kernel_rfl) rfl ((blk_cell (((hI.2.1).block ae (blk_lt ah)).trans ah) 11).trans rfl)) rfl) ?_
    refine .on rfl (fun a w hS hI hp => does_call (by kernel_rfl) (ar2 (hp.V 2 rfl rfl) (rfl)) ((carillonref01_Put.calls k a5 2 ac _  eo).mono fun _ _ h => h.elim fun v0 h => ⟨v0, h.1, h.2.2, Kd.R_lower h.2.1 hI.2.2.size⟩)) ?_
    exact .nil
   clear hS
   intro ex cu hS cD hp
   replace hS := ((hS.nil).cons (hS.get 3 rfl)).cons (hS.get 2 rfl)
   have e7 : sl _ 28 = .slice aD ab.length az := hp 0 (by decide)
   obtain ⟨fr, fA, d1, gN, eI⟩ := Kd.R_reads (show Kd.R (Kd.int .u8) 5 cu av.heap.size (fun _ => True) (sl _ 31) ac from hp 3 (by decide))
   have g6 : Kd.R (Kd.int .u8) 5 cu av.heap.size (fun _ => True) (.slice fr ac.length fA) ac := d1 ▸ (hp 3 (by decide))
   have hS := hS.cons e7
   have hS := hS.cons d1
   clear hp e7 d1
   show wpList _ _ _ [_, _] _ _
   refine list_step rfl (does_more (W := w) (.tmp 28) (.tmp 31) 36 5 1 rfl (by kernel_rfl) (by kernel_rfl) (by decide) _ ab ac _ _ (hS.get 1 rfl) (hS.get 0 rfl) (Kd.R_below b0 cD.2.1) (Kd.C_below eI (bR cu)) cD.1 c3) ?_
   rintro hl ed ⟨hb, hr, hk⟩
   have bU := hk ae _ _ ((cD.2.1.block ae (blk_lt ah)).trans ah) (by decide)
   clear hk
   have dC := hb
   replace hS := (hS.nil).cons (hS.get 2 rfl)
   obtain ⟨bp, bw, rfl, gP, gE⟩ := Kd.R_reads hr
   have eX := hr
   clear hr
   refine hS.next (v := .slice bp ((ab ++ ac : List Int).length) bw) (d := 32) rfl (by decide) (by rfl) ?_
   clear hS
   intro gc hS
   refine list_step rfl (R := fun v w' => Below _ _ w' ∧ (IsV (.slice bp ((ab ++ ac : List Int).length) bw)) v w') (does_val (x_assign rfl (hS.get 0 rfl)) rfl) ?_
   rintro fh bG ⟨hb, he⟩
   have dE := below_step dC hb
   have b8 := below_step (bR ed) hb
   obtain rfl : fh = .slice bp ((ab ++ ac : List Int).length) bw := he
   refine hS.next (v := .slice bp ((ab ++ ac : List Int).length) bw) (d := 3) rfl (by decide) (by rfl) ?_
   clear hS
   intro ge hS
   refine wpList_nil ?_
   refine be _ _ ?_
   refine wp_seq_k (fun hx eA => ?_)
   refine reg_seq_tail 5 (I := I3_ w ed bG) (ps := [IsV (.slice bp ((ab ++ ac : List Int).length) bw), VP ae 12, VI aa, IsV (.int .u8 (IntKind.u8.wrap aa)), IsR (Kd.int .u8) 5 bG.heap.size [0, IntKind.u8.wrap aa]]) (by kernel_rfl) ?_ ?_ rfl hS ⟨dE, b8, (bR bG)⟩ ?_ ?_
   ·exact bs3
   ·exact .v (.v (.v (.v (.cons (Stays.r _ _ _ _) (.nil)))))
   ·refine .ms 0 rfl rfl rfl ?_
    refine .on rfl (fun a w hS hI hp => does_val (x_fieldE (b := 0) rfl (hS.get 2 rfl) Try.underlying28 rfl rfl (by kernel_rfl)) rfl) ?_
    refine .on rfl (fun a w hS hI hp => does_val (x_load1 (d := .int .i64) rfl (hp.V 1 rfl rfl) (by kernel_rfl) rfl ((blk_cell (((hI.2.1).block ae (blk_lt bU)).trans bU) 12).trans rfl)) rfl) ?_
    refine .on rfl (fun a w hS hI hp => does_val (x_convI rfl (by kernel_rfl) (by kernel_rfl) (hp.V 2 rfl rfl)) rfl) ?_
    refine .on rfl (fun a w hS hI hp => does_lit bG.heap.size 36 5 2 _ [(0, .int .u8 0), (1, .int .u8 (IntKind.u8.wrap aa))] [0, IntKind.u8.wrap aa] rfl (by kernel_rfl) (by rw [Array.toList_map]; exact (show [(0, a.eval (.const (.int .u8 0))), (1, a.eval (.tmp 36))] = _ from (li_cons (rfl) (li_cons (hp.V 3 rfl rfl) rfl)))) (by kernel_rfl) rfl (hI.2.2).size (Nat.le_of_ble_eq_true rfl)) ?_
    exact .nil
   clear hS
   intro gg dl hS cF hp
   replace hS := ((hS.nil).cons (hS.get 2 rfl)).cons (hS.get 0 rfl)
   have e8 : sl _ 33 = .slice bp ((ab ++ ac : List Int).length) bw := hp 0 (by decide)
   obtain ⟨ft, fC, d2, gQ, eK⟩ := Kd.R_reads (show Kd.R (Kd.int .u8) 5 dl bG.heap.size (fun _ => True) (sl _ 37) [0, IntKind.u8.wrap aa] from hp 4 (by decide))
   have g8 : Kd.R (Kd.int .u8) 5 dl bG.heap.size (fun _ => True) (.slice ft [0, IntKind.u8.wrap aa].length fC) [0, IntKind.u8.wrap aa] := d2 ▸ (hp 4 (by decide))
   have hS := hS.cons e8
   have hS := hS.cons d2
   clear hp e8 d2
   show wpList _ _ _ [_, _] _ _
   refine list_step rfl (does_more (W := w) (.tmp 33) (.tmp 37) 36 5 1 rfl (by kernel_rfl) (by kernel_rfl) (by decide) _ (ab ++ ac : List Int) [0, IntKind.u8.wrap aa] _ _ (hS.get 1 rfl) (hS.get 0 rfl) (Kd.R_below eX cF.2.1) (Kd.C_below eK (bR dl)) cF.1 c4) ?_
   rintro hn ee ⟨hb, hr, hk⟩
   have bV := hk ae _ _ ((cF.2.1.block ae (blk_lt bU)).trans bU) (by decide)
   clear hk
   have dG := hb
   replace hS := (hS.nil).cons (hS.get 3 rfl)
   obtain ⟨bq, bx, rfl, gR, gG⟩ := Kd.R_reads hr
   have eZ := hr
   clear hr
   refine hS.next (v := .slice bq (((ab ++ ac : List Int) ++ [0, IntKind.u8.wrap aa] : List Int).length) bx) (d := 38) rfl (by decide) (by rfl) ?_
   clear hS
   intro gh hS
   refine list_step rfl (R := fun v w' => Below _ _ w' ∧ (IsV (.slice bq (((ab ++ ac : List Int) ++ [0, IntKind.u8.wrap aa] : List Int).length) bx)) v w') (does_val (x_assign rfl (hS.get 0 rfl)) rfl) ?_
   rintro fj b1 ⟨hb, he⟩
   have dH := below_step dG hb
   have ca := below_step (bR ee) hb
   obtain rfl : fj = .slice bq (((ab ++ ac : List Int) ++ [0, IntKind.u8.wrap aa] : List Int).length) bx := he
   refine hS.next (v := .slice bq (((ab ++ ac : List Int) ++ [0, IntKind.u8.wrap aa] : List Int).length) bx) (d := 3) rfl (by decide) (by rfl) ?_
   clear hS
   intro gi hS
   refine wpList_nil ?_
   refine eA _ _ ?_
   refine wp_seq_k (fun hy eB => ?_)
   refine reg_seq_tail 4 (I := I3_ w ee b1) (ps := [IsV (.slice bq (((ab ++ ac : List Int) ++ [0, IntKind.u8.wrap aa] : List Int).length) bx), VP ae 13, IsV (.agg #[.int .i64 aI, .int .i64 aJ, .int .i64 aK]), IsR (Kd.int .u8) 5 b1.heap.size ag]) (by kernel_rfl) ?_ ?_ rfl hS ⟨dH, ca, (bR b1)⟩ ?_ ?_
   ·exact bs3
   ·exact .v (.v (.v (.cons (Stays.r _ _ _ _) (.nil))))
   ·refine .ms 0 rfl rfl rfl ?_
    refine .on rfl (fun a w hS hI hp => does_val (x_fieldE (b := 0) rfl (hS.get 2 rfl) Try.underlying28 rfl rfl (by kernel_rfl)) rfl) ?_
    refine .on rfl (fun a w hS hI hp => does_loadmid (cs := [.int .i64 aI, .int .i64 aJ, .int .i64 aK]) rfl (hp.V 1 rfl rfl) (((hI.2.1).block ae (blk_lt bV)).trans bV) (by kernel_rfl) Try.underlying26 rfl (by kernel_rfl) rfl) ?_
    refine .on rfl (fun a w hS hI hp => does_call (by kernel_rfl) (ar1 (hp.V 2 rfl rfl)) ((carillonref05_Put.calls k aI aJ aK ag _  ep).mono fun _ _ h => h.elim fun v0 h => ⟨v0, h.1, h.2.2, Kd.R_lower h.2.1 hI.2.2.size⟩)) ?_
    exact .nil
   clear hS
   intro gj dm hS cG hp
   replace hS := ((hS.nil).cons (hS.get 2 rfl)).cons (hS.get 0 rfl)
   have e9 : sl _ 39 = .slice bq (((ab ++ ac : List Int) ++ [0, IntKind.u8.wrap aa] : List Int).length) bx := hp 0 (by decide)
   obtain ⟨fu, fD, d3, gS, eL⟩ := Kd.R_reads (show Kd.R (Kd.int .u8) 5 dm b1.heap.size (fun _ => True) (sl _ 42) ag from hp 3 (by decide))
   have g9 : Kd.R (Kd.int .u8) 5 dm b1.heap.size (fun _ => True) (.slice fu ag.length fD) ag := d3 ▸ (hp 3 (by decide))
   have hS := hS.cons e9
   have hS := hS.cons d3
   clear hp e9 d3
   show wpList _ _ _ [_, _] _ _
   refine list_step rfl (does_more (W := w) (.tmp 39) (.tmp 42) 36 5 1 rfl (by kernel_rfl) (by kernel_rfl) (by decide) _ ((ab ++ ac : List Int) ++ [0, IntKind.u8.wrap aa] : List Int) ag _ _ (hS.get 1 rfl) (hS.get 0 rfl) (Kd.R_below eZ cG.2.1) (Kd.C_below eL (bR dm)) cG.1 c5) ?_
   rintro ho ef ⟨hb, hr, hk⟩
   have bW := hk ae _ _ ((cG.2.1.block ae (blk_lt bV)).trans bV) (by decide)
   clear hk
   have dI := hb
   replace hS := (hS.nil).cons (hS.get 3 rfl)
   obtain ⟨br, bz, rfl, gT, gH⟩ := Kd.R_reads hr
   have e0 := hr
   clear hr
   refine hS.next (v := .slice br ((((ab ++ ac : List Int) ++ [0, IntKind.u8.wrap aa] : List Int) ++ ag : List Int).length) bz) (d := 43) rfl (by decide) (by rfl) ?_
   clear hS
   intro gk hS
   refine list_step rfl (R := fun v w' => Below _ _ w' ∧ (IsV (.slice br ((((ab ++ ac : List Int) ++ [0, IntKind.u8.wrap aa] : List Int) ++ ag : List Int).length) bz)) v w') (does_val (x_assign rfl (hS.get 0 rfl)) rfl) ?_
   rintro fk bH ⟨hb, he⟩
   have dJ := below_step dI hb
   have cb := below_step (bR ef) hb
   obtain rfl : fk = .slice br ((((ab ++ ac : List Int) ++ [0, IntKind.u8.wrap aa] : List Int) ++ ag : List Int).length) bz := he
   refine hS.next (v := .slice br ((((ab ++ ac : List Int) ++ [0, IntKind.u8.wrap aa] : List Int) ++ ag : List Int).length) bz) (d := 3) rfl (by decide) (by rfl) ?_
   clear hS
   intro gl hS
   refine wpList_nil ?_
   refine eB _ _ ?_
   refine wp_seq_k (fun hz eC => ?_)
   refine reg_seq_tail 5 (I := I3_ w ef bH) (ps := [IsV (.slice br ((((ab ++ ac : List Int) ++ [0, IntKind.u8.wrap aa] : List Int) ++ ag : List Int).length) bz), VP ae 16, VI ad, IsV (.int .u8 (IntKind.u8.wrap ad)), IsR (Kd.int .u8) 5 bH.heap.size [IntKind.u8.wrap ad]]) (by kernel_rfl) ?_ ?_ rfl hS ⟨dJ, cb, (bR bH)⟩ ?_ ?_
   ·exact bs3
   ·exact .v (.v (.v (.v (.cons (Stays.r _ _ _ _) (.nil)))))
   ·refine .ms 0 rfl rfl rfl ?_
    refine .on rfl (fun a w hS hI hp => does_val (x_fieldE (b := 0) rfl (hS.get 2 rfl) Try.underlying28 rfl rfl (by kernel_rfl)) rfl) ?_
    refine .on rfl (fun a w hS hI hp => does_val (x_load1 (d := .int .i64) rfl (hp.V 1 rfl rfl) (by kernel_rfl) rfl ((blk_cell (((hI.2.1).block ae (blk_lt bW)).trans bW) 16).trans rfl)) rfl) ?_
    refine .on rfl (fun a w hS hI hp => does_val (x_convI rfl (by kernel_rfl) (by kernel_rfl) (hp.V 2 rfl rfl)) rfl) ?_
    refine .on rfl (fun a w hS hI hp => does_lit bH.heap.size 36 5 1 _ [(0, .int .u8 (IntKind.u8.wrap ad))] [IntKind.u8.wrap ad] rfl (by kernel_rfl) (by rw [Array.toList_map]; exact (show [(0, a.eval (.tmp 47))] = _ from (li_cons (hp.V 3 rfl rfl) rfl))) (by kernel_rfl) rfl (hI.2.2).size (Nat.le_of_ble_eq_true rfl)) ?_
    exact .nil
   clear hS
   intro gm dn hS cH hp
   replace hS := ((hS.nil).cons (hS.get 2 rfl)).cons (hS.get 0 rfl)
   have fa : sl _ 44 = .slice br ((((ab ++ ac : List Int) ++ [0, IntKind.u8.wrap aa] : List Int) ++ ag : List Int).length) bz := hp 0 (by decide)
   obtain ⟨fv, fE, d4, gU, eM⟩ := Kd.R_reads (show Kd.R (Kd.int .u8) 5 dn bH.heap.size (fun _ => True) (sl _ 48) [IntKind.u8.wrap ad] from hp 4 (by decide))
   have ha : Kd.R (Kd.int .u8) 5 dn bH.heap.size (fun _ => True) (.slice fv [IntKind.u8.wrap ad].length fE) [IntKind.u8.wrap ad] := d4 ▸ (hp 4 (by decide))
   have hS := hS.cons fa
   have hS := hS.cons d4
   clear hp fa d4
   show wpList _ _ _ [_, _] _ _
   refine list_step rfl (does_more (W := w) (.tmp 44) (.tmp 48) 36 5 1 rfl (by kernel_rfl) (by kernel_rfl) (by decide) _ (((ab ++ ac : List Int) ++ [0, IntKind.u8.wrap aa] : List Int) ++ ag : List Int) [IntKind.u8.wrap ad] _ _ (hS.get 1 rfl) (hS.get 0 rfl) (Kd.R_below e0 cH.2.1) (Kd.C_below eM (bR dn)) cH.1 c6) ?_
   rintro hq eg ⟨hb, hr, hk⟩
   have bX := hk ae _ _ ((cH.2.1.block ae (blk_lt bW)).trans bW) (by decide)
   clear hk
   have dK := hb
   replace hS := (hS.nil).cons (hS.get 3 rfl)
   obtain ⟨bs, bA, rfl, gV, gI⟩ := Kd.R_reads hr
   have e1 := hr
   clear hr
   refine hS.next (v := .slice bs (((((ab ++ ac : List Int) ++ [0, IntKind.u8.wrap aa] : List Int) ++ ag : List Int) ++ [IntKind.u8.wrap ad] : List Int).length) bA) (d := 49) rfl (by decide) (by rfl) ?_
   clear hS
   intro gn hS
   refine list_step rfl (R := fun v w' => Below _ _ w' ∧ (IsV (.slice bs (((((ab ++ ac : List Int) ++ [0, IntKind.u8.wrap aa] : List Int) ++ ag : List Int) ++ [IntKind.u8.wrap ad] : List Int).length) bA)) v w') (does_val (x_assign rfl (hS.get 0 rfl)) rfl) ?_
   rintro fl b2 ⟨hb, he⟩
   have dL := below_step dK hb
   have cc := below_step (bR eg) hb
   obtain rfl : fl = .slice bs (((((ab ++ ac : List Int) ++ [0, IntKind.u8.wrap aa] : List Int) ++ ag : List Int) ++ [IntKind.u8.wrap ad] : List Int).length) bA := he
   refine hS.next (v := .slice bs (((((ab ++ ac : List Int) ++ [0, IntKind.u8.wrap aa] : List Int) ++ ag : List Int) ++ [IntKind.u8.wrap ad] : List Int).length) bA) (d := 3) rfl (by decide) (by rfl) ?_
   clear hS
   intro go hS
   refine wpList_nil ?_
   refine eC _ _ ?_
   refine wp_seq_k (fun hA eD => ?_)
   refine reg_seq_tail 4 (I := I3_ w eg b2) (ps := [IsV (.slice bs (((((ab ++ ac : List Int) ++ [0, IntKind.u8.wrap aa] : List Int) ++ ag : List Int) ++ [IntKind.u8.wrap ad] : List Int).length) bA), VP ae 17, IsV (.int .u64 a6), IsR (Kd.int .u8) 5 b2.heap.size ai]) (by kernel_rfl) ?_ ?_ rfl hS ⟨dL, cc, (bR b2)⟩ ?_ ?_
   ·exact bs3
   ·exact .v (.v (.v (.cons (Stays.r _ _ _ _) (.nil))))
   ·refine .ms 0 rfl rfl rfl ?_
    refine .on rfl (fun a w hS hI hp => does_val (x_fieldE (b := 0) rfl (hS.get 2 rfl) Try.underlying28 rfl rfl (by kernel_rfl)) rfl) ?_
    refine .on rfl (fun a w hS hI hp => does_val (x_load1 (d := .int .u64) rfl (hp.V 1 rfl rfl) (by kernel_rfl) rfl ((blk_cell (((hI.2.1).block ae (blk_lt bX)).trans bX) 17).trans rfl)) rfl) ?_
    refine .on rfl (fun a w hS hI hp => does_call (by kernel_rfl) (ar1 (hp.V 2 rfl rfl)) ((carillonref01_PutId.calls k a6 ai _  eq).mono fun _ _ h => h.elim fun v0 h => ⟨v0, h.1, h.2.2, Kd.R_lower h.2.1 hI.2.2.size⟩)) ?_
    exact .nil
   clear hS
   intro gp dp hS cI hp
   replace hS := ((hS.nil).cons (hS.get 2 rfl)).cons (hS.get 0 rfl)
   have fb : sl _ 50 = .slice bs (((((ab ++ ac : List Int) ++ [0, IntKind.u8.wrap aa] : List Int) ++ ag : List Int) ++ [IntKind.u8.wrap ad] : List Int).length) bA := hp 0 (by decide)
   obtain ⟨fw, fF, d5, gW, eN⟩ := Kd.R_reads (show Kd.R (Kd.int .u8) 5 dp b2.heap.size (fun _ => True) (sl _ 53) ai from hp 3 (by decide))
   have hd : Kd.R (Kd.int .u8) 5 dp b2.heap.size (fun _ => True) (.slice fw ai.length fF) ai := d5 ▸ (hp 3 (by decide))
   have hS := hS.cons fb
   have hS := hS.cons d5
   clear hp fb d5
   show wpList _ _ _ [_, _] _ _
   refine list_step rfl (does_more (W := w) (.tmp 50) (.tmp 53) 36 5 1 rfl (by kernel_rfl) (by kernel_rfl) (by decide) _ ((((ab ++ ac : List Int) ++ [0, IntKind.u8.wrap aa] : List Int) ++ ag : List Int) ++ [IntKind.u8.wrap ad] : List Int) ai _ _ (hS.get 1 rfl) (hS.get 0 rfl) (Kd.R_below e1 cI.2.1) (Kd.C_below eN (bR dp)) cI.1 c7) ?_
   rintro hs eh ⟨hb, hr, hk⟩
   have bY := hk ae _ _ ((cI.2.1.block ae (blk_lt bX)).trans bX) (by decide)
   clear hk
   have dM := hb
   replace hS := (hS.nil).cons (hS.get 3 rfl)
   obtain ⟨bt, bB, rfl, gX, gJ⟩ := Kd.R_reads hr
   have e2 := hr
   clear hr
   refine hS.next (v := .slice bt ((((((ab ++ ac : List Int) ++ [0, IntKind.u8.wrap aa] : List Int) ++ ag : List Int) ++ [IntKind.u8.wrap ad] : List Int) ++ ai : List Int).length) bB) (d := 54) rfl (by decide) (by rfl) ?_
   clear hS
   intro gq hS
   refine list_step rfl (R := fun v w' => Below _ _ w' ∧ (IsV (.slice bt ((((((ab ++ ac : List Int) ++ [0, IntKind.u8.wrap aa] : List Int) ++ ag : List Int) ++ [IntKind.u8.wrap ad] : List Int) ++ ai : List Int).length) bB)) v w') (does_val (x_assign rfl (hS.get 0 rfl)) rfl) ?_
   rintro fm b3 ⟨hb, he⟩
   have dN := below_step dM hb
   have cd := below_step (bR eh) hb
   obtain rfl : fm = .slice bt ((((((ab ++ ac : List Int) ++ [0, IntKind.u8.wrap aa] : List Int) ++ ag : List Int) ++ [IntKind.u8.wrap ad] : List Int) ++ ai : List Int).length) bB := he
   refine hS.next (v := .slice bt ((((((ab ++ ac : List Int) ++ [0, IntKind.u8.wrap aa] : List Int) ++ ag : List Int) ++ [IntKind.u8.wrap ad] : List Int) ++ ai : List Int).length) bB) (d := 3) rfl (by decide) (by rfl) ?_
   clear hS
   intro gr hS
   refine wpList_nil ?_
   refine eD _ _ ?_
   refine wp_seq_k (fun hB eE => ?_)
   refine reg_seq_tail 4 (I := I3_ w eh b3) (ps := [IsV (.slice bt ((((((ab ++ ac : List Int) ++ [0, IntKind.u8.wrap aa] : List Int) ++ ag : List Int) ++ [IntKind.u8.wrap ad] : List Int) ++ ai : List Int).length) bB), VP ae 18, VI a7, IsR (Kd.int .u8) 5 b3.heap.size an]) (by kernel_rfl) ?_ ?_ rfl hS ⟨dN, cd, (bR b3)⟩ ?_ ?_
   ·exact bs3
   ·exact .v (.v (.v (.cons (Stays.r _ _ _ _) (.nil))))
   ·refine .ms 0 rfl rfl rfl ?_
    refine .on rfl (fun a w hS hI hp => does_val (x_fieldE (b := 0) rfl (hS.get 2 rfl) Try.underlying28 rfl rfl (by kernel_rfl)) rfl) ?_
    refine .on rfl (fun a w hS hI hp => does_val (x_load1 (d := .int .i64) rfl (hp.V 1 rfl rfl) (by kernel_rfl) rfl ((blk_cell (((hI.2.1).block ae (blk_lt bY)).trans bY) 18).trans rfl)) rfl) ?_
    refine .on rfl (fun a w hS hI hp => does_call (by kernel_rfl) (ar2 (hp.V 2 rfl rfl) (rfl)) ((carillonref01_Put.calls k a7 2 an _  er).mono fun _ _ h => h.elim fun v0 h => ⟨v0, h.1, h.2.2, Kd.R_lower h.2.1 hI.2.2.size⟩)) ?_
    exact .nil
   clear hS
   intro gs dq hS cJ hp
   replace hS := ((hS.nil).cons (hS.get 2 rfl)).cons (hS.get 0 rfl)
   have fc : sl _ 55 = .slice bt ((((((ab ++ ac : List Int) ++ [0, IntKind.u8.wrap aa] : List Int) ++ ag : List Int) ++ [IntKind.u8.wrap ad] : List Int) ++ ai : List Int).length) bB := hp 0 (by decide)
   obtain ⟨fx, fG, d6, gY, eO⟩ := Kd.R_reads (show Kd.R (Kd.int .u8) 5 dq b3.heap.size (fun _ => True) (sl _ 58) an from hp 3 (by decide))
   have hf : Kd.R (Kd.int .u8) 5 dq b3.heap.size (fun _ => True) (.slice fx an.length fG) an := d6 ▸ (hp 3 (by decide))
   have hS := hS.cons fc
   have hS := hS.cons d6
   clear hp fc d6
   show wpList _ _ _ [_, _] _ _
   refine list_step rfl (does_more (W := w) (.tmp 55) (.tmp 58) 36 5 1 rfl (by kernel_rfl) (by kernel_rfl) (by decide) _ (((((ab ++ ac : List Int) ++ [0, IntKind.u8.wrap aa] : List Int) ++ ag : List Int) ++ [IntKind.u8.wrap ad] : List Int) ++ ai : List Int) an _ _ (hS.get 1 rfl) (hS.get 0 rfl) (Kd.R_below e2 cJ.2.1) (Kd.C_below eO (bR dq)) cJ.1 c8) ?_
   rintro ht ei ⟨hb, hr, hk⟩
   have bZ := hk ae _ _ ((cJ.2.1.block ae (blk_lt bY)).trans bY) (by decide)
   clear hk
   have dO := hb
   replace hS := (hS.nil).cons (hS.get 3 rfl)
   obtain ⟨bu, bC, rfl, gZ, gK⟩ := Kd.R_reads hr
   have e3 := hr
   clear hr
   refine hS.next (v := .slice bu (((((((ab ++ ac : List Int) ++ [0, IntKind.u8.wrap aa] : List Int) ++ ag : List Int) ++ [IntKind.u8.wrap ad] : List Int) ++ ai : List Int) ++ an : List Int).length) bC) (d := 59) rfl (by decide) (by rfl) ?_
   clear hS
   intro gt hS
   refine list_step rfl (R := fun v w' => Below _ _ w' ∧ (IsV (.slice bu (((((((ab ++ ac : List Int) ++ [0, IntKind.u8.wrap aa] : List Int) ++ ag : List Int) ++ [IntKind.u8.wrap ad] : List Int) ++ ai : List Int) ++ an : List Int).length) bC)) v w') (does_val (x_assign rfl (hS.get 0 rfl)) rfl) ?_
   rintro fo bI ⟨hb, he⟩
   have dP := below_step dO hb
   have ce := below_step (bR ei) hb
   obtain rfl : fo = .slice bu (((((((ab ++ ac : List Int) ++ [0, IntKind.u8.wrap aa] : List Int) ++ ag : List Int) ++ [IntKind.u8.wrap ad] : List Int) ++ ai : List Int) ++ an : List Int).length) bC := he
   refine hS.next (v := .slice bu (((((((ab ++ ac : List Int) ++ [0, IntKind.u8.wrap aa] : List Int) ++ ag : List Int) ++ [IntKind.u8.wrap ad] : List Int) ++ ai : List Int) ++ an : List Int).length) bC) (d := 3) rfl (by decide) (by rfl) ?_
   clear hS
   intro gu hS
   refine wpList_nil ?_
   refine eE _ _ ?_
   refine reg_seq_tail 5 (I := I3_ w ei bI) (ps := [IsV (.slice bu (((((((ab ++ ac : List Int) ++ [0, IntKind.u8.wrap aa] : List Int) ++ ag : List Int) ++ [IntKind.u8.wrap ad] : List Int) ++ ai : List Int) ++ an : List Int).length) bC), VP ae 19, VI aj, IsV (.int .u8 (IntKind.u8.wrap aj)), IsR (Kd.int .u8) 5 bI.heap.size [IntKind.u8.wrap aj]]) (by kernel_rfl) ?_ ?_ rfl hS ⟨dP, ce, (bR bI)⟩ ?_ ?_
   ·exact bs3
   ·exact .v (.v (.v (.v (.cons (Stays.r _ _ _ _) (.nil)))))
   ·refine .ms 0 rfl rfl rfl ?_
    refine .on rfl (fun a w hS hI hp => does_val (x_fieldE (b := 0) rfl (hS.get 2 rfl) Try.underlying28 rfl rfl (by kernel_rfl)) rfl) ?_
    refine .on rfl (fun a w hS hI hp => does_val (x_load1 (d := .int .i64) rfl (hp.V 1 rfl rfl) (by kernel_rfl) rfl ((blk_cell (((hI.2.1).block ae (blk_lt bZ)).trans bZ) 19).trans rfl)) rfl) ?_
    refine .on rfl (fun a w hS hI hp => does_val (x_convI rfl (by kernel_rfl) (by kernel_rfl) (hp.V 2 rfl rfl)) rfl) ?_
    refine .on rfl (fun a w hS hI hp => does_lit bI.heap.size 36 5 1 _ [(0, .int .u8 (IntKind.u8.wrap aj))] [IntKind.u8.wrap aj] rfl (by kernel_rfl) (by rw [Array.toList_map]; exact (show [(0, a.eval (.tmp 63))] = _ from (li_cons (hp.V 3 rfl rfl) rfl))) (by kernel_rfl) rfl (hI.2.2).size (Nat.le_of_ble_eq_true rfl)) ?_
    exact .nil
   clear hS
   intro gv dr hS cK hp
   replace hS := (hS.nil).cons (hS.get 0 rfl)
   have fd : sl _ 60 = .slice bu (((((((ab ++ ac : List Int) ++ [0, IntKind.u8.wrap aa] : List Int) ++ ag : List Int) ++ [IntKind.u8.wrap ad] : List Int) ++ ai : List Int) ++ an : List Int).length) bC := hp 0 (by decide)
   obtain ⟨fy, fH, d7, g0, eP⟩ := Kd.R_reads (show Kd.R (Kd.int .u8) 5 dr bI.heap.size (fun _ => True) (sl _ 64) [IntKind.u8.wrap aj] from hp 4 (by decide))
   have hg : Kd.R (Kd.int .u8) 5 dr bI.heap.size (fun _ => True) (.slice fy [IntKind.u8.wrap aj].length fH) [IntKind.u8.wrap aj] := d7 ▸ (hp 4 (by decide))
   have hS := hS.cons fd
   have hS := hS.cons d7
   clear hp fd d7
   show wpList _ _ _ [_, _] _ _
   refine list_step rfl (does_more (W := w) (.tmp 60) (.tmp 64) 36 5 1 rfl (by kernel_rfl) (by kernel_rfl) (by decide) _ ((((((ab ++ ac : List Int) ++ [0, IntKind.u8.wrap aa] : List Int) ++ ag : List Int) ++ [IntKind.u8.wrap ad] : List Int) ++ ai : List Int) ++ an : List Int) [IntKind.u8.wrap aj] _ _ (hS.get 1 rfl) (hS.get 0 rfl) (Kd.R_below e3 cK.2.1) (Kd.C_below eP (bR dr)) cK.1 c9) ?_
   rintro hu fP ⟨hb, hr, hk⟩
   have g3 := hk ae _ _ ((cK.2.1.block ae (blk_lt bZ)).trans bZ) (by decide)
   clear hk
   have dQ := hb
   replace hS := hS.nil
   obtain ⟨bN, bS, rfl, eT, gL⟩ := Kd.R_reads hr
   have e4 := hr
   clear hr
   refine hS.next (v := .slice bN ((((((((ab ++ ac : List Int) ++ [0, IntKind.u8.wrap aa] : List Int) ++ ag : List Int) ++ [IntKind.u8.wrap ad] : List Int) ++ ai : List Int) ++ an : List Int) ++ [IntKind.u8.wrap aj] : List Int).length) bS) (d := 65) rfl (by decide) (by rfl) ?_
   clear hS
   intro gw hS
   refine list_step rfl (R := fun v w' => Below _ _ w' ∧ (IsV (.slice bN ((((((((ab ++ ac : List Int) ++ [0, IntKind.u8.wrap aa] : List Int) ++ ag : List Int) ++ [IntKind.u8.wrap ad] : List Int) ++ ai : List Int) ++ an : List Int) ++ [IntKind.u8.wrap aj] : List Int).length) bS)) v w') (does_val (x_assign rfl (hS.get 0 rfl)) rfl) ?_
   rintro fp hH ⟨hb, he⟩
   have dR := below_step dQ hb
   have cf := below_step (bR fP) hb
   obtain rfl : fp = .slice bN ((((((((ab ++ ac : List Int) ++ [0, IntKind.u8.wrap aa] : List Int) ++ ag : List Int) ++ [IntKind.u8.wrap ad] : List Int) ++ ai : List Int) ++ an : List Int) ++ [IntKind.u8.wrap aj] : List Int).length) bS := he
   refine hS.next (v := .slice bN ((((((((ab ++ ac : List Int) ++ [0, IntKind.u8.wrap aa] : List Int) ++ ag : List Int) ++ [IntKind.u8.wrap ad] : List Int) ++ ai : List Int) ++ an : List Int) ++ [IntKind.u8.wrap aj] : List Int).length) bS) (d := 3) rfl (by decide) (by rfl) ?_
   clear hS
   intro gx hS
   refine wpList_nil ?_
   replace hS := (hS.nil).cons (hS.get 0 rfl)
   (try simp only [Exit.then, Exit.inBlock])
   exact J3 _ _ (((((((ab ++ ac : List Int) ++ [0, IntKind.u8.wrap aa] : List Int) ++ ag : List Int) ++ [IntKind.u8.wrap ad] : List Int) ++ ai : List Int) ++ an : List Int) ++ [IntKind.u8.wrap aj] : List Int) bN bS H hS dR eT (Kd.R_lower (Kd.R_below e4 cf) (Nat.le_refl _))
  obtain ⟨a9, dt, H⟩ := Option.bind_eq_some_iff.mp H
  by_cases c1 : a9 = true
  rotate_left
  ·rw [if_neg c1] at H
   refine wp_seq_k (fun fJ cx => ?_)
   refine reg_seq (I := I2_ w bJ) (ps := [VP ap 0, VI aC, VB a9]) (by kernel_rfl) ?_ ?_ rfl hS ⟨cW, (bR bJ)⟩ ?_ ?_
   ·exact bs2
   ·exact .v (.v (.v (.nil)))
   ·refine .on rfl (fun a w hS hI hp => does_val (x_fieldE (b := 0) rfl (hS.get 0 rfl) Try.underlying28 rfl rfl (by kernel_rfl)) rfl) ?_
    refine .on rfl (fun a w hS hI hp => does_val (x_load1 (d := .int .i64) rfl (hp.V 0 rfl rfl) (by kernel_rfl) rfl ((blk_cell (((hI.2).block ap (blk_lt ao)).trans ao) 0).trans rfl)) rfl) ?_
    refine .on rfl (fun a w hS hI hp => does_call (by kernel_rfl) (ar1 (hp.V 1 rfl rfl)) ((carillonref07_targeted.calls aC a9 _  dt).mono fun _ _ h => ⟨_, h.1, h.2.below, rfl⟩)) ?_
    exact .nil
   clear hS
   intro ev bE hS aR hp
   have cy : sl _ 14 = .bool a9 := hp 2 (by decide)
   have hS := hS.cons cy
   clear hp cy
   refine cx _ _ ?_
   refine wp_cond_false ((hS.get 0 rfl).trans (bF (Bool.eq_false_iff.2 c1))) ?_
   refine wp_skip ?_
   replace hS := ((hS.nil).cons (hS.get 2 rfl)).cons (hS.get 1 rfl)
   (try simp only [Exit.then, Exit.inBlock])
   exact J2 _ _ aC bh bi bj bk bl bm bn bo aG ay aT aU aV aW aX aY aZ a0 a1 a2 a3 a4 ap aw bv a8 H hS aR.1 b6 ((aR.2.block ap (blk_lt ao)).trans ao) fL (Kd.R_lower (Kd.R_below dU aR.2) (Nat.le_refl _))
  rw [if_pos c1] at H
  obtain ⟨ax, en, H⟩ := Option.bind_eq_some_iff.mp H
  by_cases c2 : (aw.length + ax.length) * 1 ≤ 140737488355328
  rotate_left
  ·rw [if_neg c2] at H
   exact absurd H (by simp)
  rw [if_pos c2] at H
  refine wp_seq_k (fun fJ cx => ?_)
  refine reg_seq (I := I2_ w bJ) (ps := [VP ap 0, VI aC, VB a9]) (by kernel_rfl) ?_ ?_ rfl hS ⟨cW, (bR bJ)⟩ ?_ ?_
  ·exact bs2
  ·exact .v (.v (.v (.nil)))
  ·refine .on rfl (fun a w hS hI hp => does_val (x_fieldE (b := 0) rfl (hS.get 0 rfl) Try.underlying28 rfl rfl (by kernel_rfl)) rfl) ?_
   refine .on rfl (fun a w hS hI hp => does_val (x_load1 (d := .int .i64) rfl (hp.V 0 rfl rfl) (by kernel_rfl) rfl ((blk_cell (((hI.2).block ap (blk_lt ao)).trans ao) 0).trans rfl)) rfl) ?_
   refine .on rfl (fun a w hS hI hp => does_call (by kernel_rfl) (ar1 (hp.V 1 rfl rfl)) ((carillonref07_targeted.calls aC a9 _  dt).mono fun _ _ h => ⟨_, h.1, h.2.below, rfl⟩)) ?_
   exact .nil
  clear hS
  intro ev bE hS aR hp
  have cy : sl _ 14 = .bool a9 := hp 2 (by decide)
  have hS := hS.cons cy
  clear hp cy
  refine cx _ _ ?_
  refine wp_cond_true ((hS.get 0 rfl).trans (bT c1)) ?_
  refine reg_seq_tail 4 (I := I3_ w bJ bE) (ps := [IsV (.slice bv aw.length a8), VP ap 9, IsV (.agg #[.int .u64 aG, .int .i64 ay]), IsR (Kd.int .u8) 5 bE.heap.size ax]) (by kernel_rfl) ?_ ?_ rfl hS ⟨aR.1, aR.2, (bR bE)⟩ ?_ ?_
  ·exact bs3
  ·exact .v (.v (.v (.cons (Stays.r _ _ _ _) (.nil))))
  ·refine .ms 2 rfl rfl rfl ?_
   refine .on rfl (fun a w hS hI hp => does_val (x_fieldE (b := 0) rfl (hS.get 1 rfl) Try.underlying28 rfl rfl (by kernel_rfl)) rfl) ?_
   refine .on rfl (fun a w hS hI hp => does_loadmid (cs := [.int .u64 aG, .int .i64 ay]) rfl (hp.V 1 rfl rfl) (((hI.2.1).block ap (blk_lt ao)).trans ao) (by kernel_rfl) Try.underlying24 rfl (by kernel_rfl) rfl) ?_
   refine .on rfl (fun a w hS hI hp => does_call (by kernel_rfl) (ar1 (hp.V 2 rfl rfl)) ((carillonref04_Put.calls k aG ay ax _  en).mono fun _ _ h => h.elim fun v0 h => ⟨v0, h.1, h.2.2, Kd.R_lower h.2.1 hI.2.2.size⟩)) ?_
   exact .nil
  clear hS
  intro f6 dj hS cA hp
  replace hS := ((hS.nil).cons (hS.get 2 rfl)).cons (hS.get 1 rfl)
  have e5 : sl _ 15 = .slice bv aw.length a8 := hp 0 (by decide)
  obtain ⟨fq, fz, d0, gM, eH⟩ := Kd.R_reads (show Kd.R (Kd.int .u8) 5 dj bE.heap.size (fun _ => True) (sl _ 18) ax from hp 3 (by decide))
  have g5 : Kd.R (Kd.int .u8) 5 dj bE.heap.size (fun _ => True) (.slice fq ax.length fz) ax := d0 ▸ (hp 3 (by decide))
  have hS := hS.cons e5
  have hS := hS.cons d0
  clear hp e5 d0
  show wpList _ _ _ [_, _] _ _
  refine list_step rfl (does_more (W := w) (.tmp 15) (.tmp 18) 36 5 1 rfl (by kernel_rfl) (by kernel_rfl) (by decide) _ aw ax _ _ (hS.get 1 rfl) (hS.get 0 rfl) (Kd.R_below dU cA.2.1) (Kd.C_below eH (bR dj)) cA.1 c2) ?_
  rintro hi fN ⟨hb, hr, hk⟩
  have dT := hk ap _ _ ((cA.2.1.block ap (blk_lt ao)).trans ao) (by decide)
  clear hk
  have dw := hb
  replace hS := (hS.nil).cons (hS.get 2 rfl)
  obtain ⟨bK, bO, rfl, eQ, gC⟩ := Kd.R_reads hr
  have eV := hr
  clear hr
  refine hS.next (v := .slice bK ((aw ++ ax : List Int).length) bO) (d := 19) rfl (by decide) (by rfl) ?_
  clear hS
  intro f7 hS
  refine list_step rfl (R := fun v w' => Below _ _ w' ∧ (IsV (.slice bK ((aw ++ ax : List Int).length) bO)) v w') (does_val (x_assign rfl (hS.get 0 rfl)) rfl) ?_
  rintro ff hE ⟨hb, he⟩
  have dx := below_step dw hb
  have bb := below_step (bR fN) hb
  obtain rfl : ff = .slice bK ((aw ++ ax : List Int).length) bO := he
  refine hS.next (v := .slice bK ((aw ++ ax : List Int).length) bO) (d := 3) rfl (by decide) (by rfl) ?_
  clear hS
  intro f8 hS
  refine wpList_nil ?_
  replace hS := ((hS.nil).cons (hS.get 0 rfl)).cons (hS.get 2 rfl)
  (try simp only [Exit.then, Exit.inBlock])
  exact J2 _ _ aC bh bi bj bk bl bm bn bo aG ay aT aU aV aW aX aY aZ a0 a1 a2 a3 a4 ap (aw ++ ax : List Int) bK bO H hS dx b6 ((bb.block ap (blk_lt dT)).trans dT) eQ (Kd.R_lower (Kd.R_below eV bb) (Nat.le_refl _))
 obtain ⟨cL, em, H⟩ := Option.bind_eq_some_iff.mp H
 by_cases c1 : cL = true
 rotate_left
 ·rw [if_neg c1] at H
  refine wp_seq_k (fun K9 eG => ?_)
  refine reg_seq (I := I3_ w w3 w7) (ps := [VP g4 0, VI bc, VB cL]) (by kernel_rfl) ?_ ?_ rfl hS ⟨ec.1, ec.2, (bR w7)⟩ ?_ ?_
  ·exact bs3
  ·exact .v (.v (.v (.nil)))
  ·refine .on rfl (fun a w hS hI hp => does_val (x_fieldE (b := 0) rfl (hS.get 1 rfl) Try.underlying28 rfl rfl (by kernel_rfl)) rfl) ?_
   refine .on rfl (fun a w hS hI hp => does_val (x_load1 (d := .int .i64) rfl (hp.V 0 rfl rfl) (by kernel_rfl) rfl ((blk_cell (((hI.2.1).block g4 (blk_lt aE)).trans aE) 0).trans rfl)) rfl) ?_
   refine .on rfl (fun a w hS hI hp => does_call (by kernel_rfl) (ar1 (hp.V 1 rfl rfl)) ((carillonref07_stamped.calls bc cL _  em).mono fun _ _ h => ⟨_, h.1, h.2.below, rfl⟩)) ?_
   exact .nil
  clear hS
  intro fY cX hS cB hp
  have dV : sl _ 6 = .bool cL := hp 2 (by decide)
  have hS := hS.cons dV
  clear hp dV
  refine eG _ _ ?_
  refine wp_cond_false ((hS.get 0 rfl).trans (bF (Bool.eq_false_iff.2 c1))) ?_
  refine wp_skip ?_
  replace hS := ((hS.nil).cons (hS.get 1 rfl)).cons (hS.get 2 rfl)
  (try simp only [Exit.then, Exit.inBlock])
  exact J1 _ _ bc da db dc dd de df dg b4 dh cg ch ci cj ck cl cm cn co cp cq cr ct g4 [] none 0 H hS cB.1 eb ((cB.2.1.block g4 (blk_lt aE)).trans aE) (Nat.le_refl _) (Kd.R_nil _ _ _ _ _)
 rw [if_pos c1] at H
 obtain ⟨aS, fX, H⟩ := Option.bind_eq_some_iff.mp H
 by_cases c2 : aS.length * 1 ≤ 140737488355328
 rotate_left
 ·rw [if_neg c2] at H
  exact absurd H (by simp)
 rw [if_pos c2] at H
 refine wp_seq_k (fun K9 eG => ?_)
 refine reg_seq (I := I3_ w w3 w7) (ps := [VP g4 0, VI bc, VB cL]) (by kernel_rfl) ?_ ?_ rfl hS ⟨ec.1, ec.2, (bR w7)⟩ ?_ ?_
 ·exact bs3
 ·exact .v (.v (.v (.nil)))
 ·refine .on rfl (fun a w hS hI hp => does_val (x_fieldE (b := 0) rfl (hS.get 1 rfl) Try.underlying28 rfl rfl (by kernel_rfl)) rfl) ?_
  refine .on rfl (fun a w hS hI hp => does_val (x_load1 (d := .int .i64) rfl (hp.V 0 rfl rfl) (by kernel_rfl) rfl ((blk_cell (((hI.2.1).block g4 (blk_lt aE)).trans aE) 0).trans rfl)) rfl) ?_
  refine .on rfl (fun a w hS hI hp => does_call (by kernel_rfl) (ar1 (hp.V 1 rfl rfl)) ((carillonref07_stamped.calls bc cL _  em).mono fun _ _ h => ⟨_, h.1, h.2.below, rfl⟩)) ?_
  exact .nil
 clear hS
 intro fY cX hS cB hp
 have dV : sl _ 6 = .bool cL := hp 2 (by decide)
 have hS := hS.cons dV
 clear hp dV
 refine eG _ _ ?_
 refine wp_cond_true ((hS.get 0 rfl).trans (bT c1)) ?_
 refine reg_seq_tail 4 (I := I3_ w w3 cX) (ps := [IsV (.slice none 0 0), VP g4 8, VI b4, IsR (Kd.int .u8) 5 cX.heap.size aS]) (by kernel_rfl) ?_ ?_ rfl hS ⟨cB.1, cB.2.1, (bR cX)⟩ ?_ ?_
 ·exact bs3
 ·exact .v (.v (.v (.cons (Stays.r _ _ _ _) (.nil))))
 ·refine .ms 1 rfl rfl rfl ?_
  refine .on rfl (fun a w hS hI hp => does_val (x_fieldE (b := 0) rfl (hS.get 2 rfl) Try.underlying28 rfl rfl (by kernel_rfl)) rfl) ?_
  refine .on rfl (fun a w hS hI hp => does_val (x_load1 (d := .int .i64) rfl (hp.V 1 rfl rfl) (by kernel_rfl) rfl ((blk_cell (((hI.2.1).block g4 (blk_lt aE)).trans aE) 8).trans rfl)) rfl) ?_
  refine .on rfl (fun a w hS hI hp => does_call (by kernel_rfl) (ar1 (hp.V 2 rfl rfl)) ((carillonref02_Put.calls k b4 aS _  fX).mono fun _ _ h => h.elim fun v0 h => ⟨v0, h.1, h.2.2, Kd.R_lower h.2.1 hI.2.2.size⟩)) ?_
  exact .nil
 clear hS
 intro hK cM hS di hp
 replace hS := ((hS.nil).cons (hS.get 2 rfl)).cons (hS.get 1 rfl)
 have fW : sl _ 7 = .slice none 0 0 := hp 0 (by decide)
 obtain ⟨f3, f4, dZ, hO, fZ⟩ := Kd.R_reads (show Kd.R (Kd.int .u8) 5 cM cX.heap.size (fun _ => True) (sl _ 10) aS from hp 3 (by decide))
 have hP : Kd.R (Kd.int .u8) 5 cM cX.heap.size (fun _ => True) (.slice f3 aS.length f4) aS := dZ ▸ (hp 3 (by decide))
 have hS := hS.cons fW
 have hS := hS.cons dZ
 clear hp fW dZ
 show wpList _ _ _ [_, _] _ _
 refine list_step rfl (R := fun v w' => Below _ _ w' ∧ (IsR (Kd.int .u8) 5 cM.heap.size aS) v w') (does_copy cM.heap.size (.tmp 7) (.tmp 10) 36 5 1 rfl (by kernel_rfl) (by kernel_rfl) (by decide) aS _ _ (hS.get 1 rfl) (hS.get 0 rfl) ((Kd.C_below fZ (bR cM))) ((bR cM)).size c2) ?_
 rintro hQ hw ⟨hb, he⟩
 have ej := below_step di.1 hb
 have dX := below_step di.2.1 hb
 have dy := below_step di.2.2 hb
 have dz := below_step (bR cM) hb
 obtain ⟨ds, du, rfl, f0, hN⟩ := Kd.R_reads he
 have f1 := he
 refine hS.next (v := .slice ds aS.length du) (d := 11) rfl (by decide) (by rfl) ?_
 clear hS
 intro hL hS
 refine list_step rfl (R := fun v w' => Below _ _ w' ∧ (IsV (.slice ds aS.length du)) v w') (does_val (x_assign rfl (hS.get 0 rfl)) rfl) ?_
 rintro f2 hU ⟨hb, he⟩
 have ek := below_step ej hb
 have dY := below_step dX hb
 have fQ := below_step dy hb
 have fR := below_step dz hb
 have dS := below_step (bR hw) hb
 obtain rfl : f2 = .slice ds aS.length du := he
 replace hS := ((((hS.nil).cons (hS.get 4 rfl)).cons (hS.get 2 rfl)).cons (hS.get 1 rfl)).cons (hS.get 0 rfl)
 refine hS.next (v := .slice ds aS.length du) (d := 3) rfl (by decide) (by rfl) ?_
 clear hS
 intro hM hS
 refine wpList_nil ?_
 replace hS := ((hS.nil).cons (hS.get 0 rfl)).cons (hS.get 4 rfl)
 (try simp only [Exit.then, Exit.inBlock])
 exact J1 _ _ bc da db dc dd de df dg b4 dh cg ch ci cj ck cl cm cn co cp cq cr ct g4 aS ds du H hS ek eb ((dY.block g4 (blk_lt aE)).trans aE) f0 (Kd.R_lower (Kd.R_below f1 dS) (di.1).size)
end Go.Proofs.Ytiomlbkakiienaa.P
