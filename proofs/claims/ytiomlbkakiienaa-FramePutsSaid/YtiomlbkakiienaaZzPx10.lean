/- Functions and loops of the given program as Lean functions, and that the code comes to what they say: written by this session's own program; Lean checks it. -/
import Derived.Test.YtiomlbkakiienaaZzPx0
import Derived.Test.YtiomlbkakiienaaZzPx1
import Derived.Test.YtiomlbkakiienaaZzPx4
import Derived.Test.YtiomlbkakiienaaZzPx6
import Derived.Test.YtiomlbkakiienaaZzPx7
import Derived.Test.YtiomlbkakiienaaZzPx8
import Derived.Test.YtiomlbkakiienaaZzPx9
namespace Go.Proofs.Ytiomlbkakiienaa.P
open Go.RowKit Go.Proofs.YtiomlbkakiienaaW.PrintWords Go.Proofs.YtiomlbkakiienaaW.PrintLast Go.Proofs.YtiomlbkakiienaaW.PrintMore
attribute [local go_sem] max2_int min2_int max_two min_two max_three min_three max_four min_four   -- for this text's walks alone
set_option linter.unusedVariables false
set_option linter.unusedSimpArgs false
def carillonref05_Put.f (k : Nat) (a0_0 : Int) (a0_1 : Int) (a0_2 : Int) : Option (List Int) := (carillonref01_Put.f k a0_0 1).bind fun t197 => ((carillonref01_Put.f k a0_1 1).bind fun t200 => (if t197.length + t200.length < 140737488355328 then ((some (t197 ++ t200 : List Int)).bind fun y203 => ((carillonref01_Put.f k a0_2 2).bind fun t206 => (if y203.length + t206.length < 140737488355328 then (some (y203 ++ t206)) else (none)))) else (none)))
def carillonref05_Put.T1 : Bool × List (List Nat × List Nat) := (true, [([], []), ([0], [0]), ([1], [1]), ([], []), ([3], [3]), ([4, 2], [4]), ([2, 5, 5], [2, 5]), ([], []), ([7], [7]), ([8, 6], [8]), ([6, 9, 9], [6, 9]), ([10, 10, 0, 1, 2, 3, 4, 5, 6, 7, 8, 9, 10], [10])])
def carillonref05_Put.B1 : List Nat := [0, 1, 3, 0, 8, 31, 63, 0, 128, 511, 1023, 2047]
theorem carillonref05_Put.tab1 : rtab .any (opsOf Try.f57 1) = carillonref05_Put.T1 := by kernel_rfl
theorem carillonref05_Put.bits1 : waitsOk carillonref05_Put.T1.2 carillonref05_Put.B1 = true := by kernel_rfl
set_option maxHeartbeats 8000000 in
set_option maxRecDepth 100000 in
theorem carillonref05_Put.calls (k : Nat) (a0_0 : Int) (a0_1 : Int) (a0_2 : Int) (r : List Int) (w : World) (h : carillonref05_Put.f k a0_0 a0_1 a0_2 = some r) :
    Calls Try.prog 57 #[.agg #[.int .i64 a0_0, .int .i64 a0_1, .int .i64 a0_2]] w fun e w' => ∃ v0_ : Value, e = .returned (v0_) ∧ Kd.R (Kd.int .u8) 5 w' w.heap.size (fun _ => True) v0_ r ∧ Below w.heap.size w w' := by
  have hu26 := Try.underlying26
  have HB := Aside0.mk (Below.refl w.heap.size w)
  have H : ((carillonref01_Put.f k a0_0 1).bind fun t197 => ((carillonref01_Put.f k a0_1 1).bind fun t200 => (if t197.length + t200.length < 140737488355328 then ((some (t197 ++ t200 : List Int)).bind fun y203 => ((carillonref01_Put.f k a0_2 2).bind fun t206 => (if y203.length + t206.length < 140737488355328 then (some (y203 ++ t206)) else (none)))) else (none)))) = some r := h
  clear h
  replace H := Option.bind_eq_some_iff.mp H
  obtain ⟨t197, A20, H⟩ := H
  replace H : ((carillonref01_Put.f k a0_1 1).bind fun t200 => (if t197.length + t200.length < 140737488355328 then ((some (t197 ++ t200 : List Int)).bind fun y203 => ((carillonref01_Put.f k a0_2 2).bind fun t206 => (if y203.length + t206.length < 140737488355328 then (some (y203 ++ t206)) else (none)))) else (none))) = some r := H
  have A2 := Aside0.mk A20
  clear A20
  replace H := Option.bind_eq_some_iff.mp H
  obtain ⟨t200, A30, H⟩ := H
  replace H : (if t197.length + t200.length < 140737488355328 then ((some (t197 ++ t200 : List Int)).bind fun y203 => ((carillonref01_Put.f k a0_2 2).bind fun t206 => (if y203.length + t206.length < 140737488355328 then (some (y203 ++ t206)) else (none)))) else (none)) = some r := H
  have A3 := Aside0.mk A30
  clear A30
  by_cases c4 : t197.length + t200.length < 140737488355328
  · rw [if_pos c4] at H
    have LMc4 := Aside0.mk c4
    clear c4
    obtain ⟨y203, hy203⟩ : ∃ y_ : List Int, y_ = (t197 ++ t200) := ⟨_, rfl⟩
    replace H : ((carillonref01_Put.f k a0_2 2).bind fun t206 => (if y203.length + t206.length < 140737488355328 then (some (y203 ++ t206)) else (none))) = some r := by first | (rw [hy203]; with_reducible exact H) | (have H2_ := (Option.bind_some _ _).symm.trans H; rw [hy203]; with_reducible exact H2_) | (have H2_ := (Option.bind_some _ _).symm.trans H; with_reducible exact H2_) | with_reducible exact H | (rw [hy203]; exact H) | exact H
    have Ny203 := Aside0.mk hy203
    clear hy203
    replace H := Option.bind_eq_some_iff.mp H
    obtain ⟨t206, A50, H⟩ := H
    replace H : (if y203.length + t206.length < 140737488355328 then (some (y203 ++ t206)) else (none)) = some r := H
    have A5 := Aside0.mk A50
    clear A50
    by_cases c6 : y203.length + t206.length < 140737488355328
    · rw [if_pos c6] at H
      have LMc6 := Aside0.mk c6
      clear c6
      obtain ⟨y209, hy209⟩ : ∃ y_ : List Int, y_ = (y203 ++ t206) := ⟨_, rfl⟩
      replace H : (some y209) = some r := by first | (rw [hy209]; with_reducible exact H) | (have H2_ := (Option.bind_some _ _).symm.trans H; rw [hy209]; with_reducible exact H2_) | (have H2_ := (Option.bind_some _ _).symm.trans H; with_reducible exact H2_) | with_reducible exact H | (rw [hy209]; exact H) | exact H
      have Ny209 := Aside0.mk hy209
      clear hy209
      obtain rfl := Option.some.inj H
      go_enter Try.func57, Try.ntmps57
      try go_wp2_with (first | ((with_reducible refine gate_dst (N := 1) rfl ?_); refine box_event ?hg (N := 1) ?hd (cs := #[.int .i64 a0_0, .int .i64 a0_1, .int .i64 a0_2]) (t := 26) ?hr ?_; (case hd => rfl); (case hg => rfl); (case hr => first | (go_simp; done) | (go_simp; rfl)); intro gb196 hg w7 hbox hb; have n0_ := Aside0.mk (below_step (by repeat (first | (with_reducible first | exact HB.out | apply below_alloc | apply pw_below_drewN | apply below_drew1) | exact HB.out)) hb); have n1_ := Aside0.mk (hbox); have n2_ := Aside0.mk ((by rw [hg]; exact (below_size (by repeat (first | (with_reducible first | exact HB.out | apply below_alloc | apply pw_below_drewN | apply below_drew1) | exact HB.out))) : w.heap.size ≤ gb196)); have n3_ := Aside0.mk ((by rw [hg]; exact (below_size (by repeat (first | (with_reducible first | exact HB.out | apply below_alloc | apply pw_below_drewN | apply below_drew1) | exact HB.out))) : w.heap.size ≤ gb196)); clear HB; have HB := n0_; have BK196 := n1_; have GW196 := n2_; have GE196 := n3_; clear n0_ n1_ n2_ n3_; clear hb hbox hg))
      have n0_ := Aside0.mk (blk_drew BK196.out)
      have n1_ := Aside0.mk (below_drew1 HB.out)
      clear BK196
      clear HB
      have BK196 := n0_
      have HB := n1_
      clear n0_ n1_
      refine start_ (n := 12) (S := fun w' => w'.cell? ⟨gb196, 0, none⟩ = some (.int .i64 a0_0) ∧ w'.cell? ⟨gb196, 1, none⟩ = some (.int .i64 a0_1) ∧ w'.cell? ⟨gb196, 2, none⟩ = some (.int .i64 a0_2)) (ds := []) #[false, false, false, false, false, false, false, false, false, false, false, false] (by kernel_rfl) rfl rfl ⟨(blk_cell BK196.out 0).trans rfl, (blk_cell BK196.out 1).trans rfl, (blk_cell BK196.out 2).trans rfl⟩ (fun hHeld => ?_); refine with_tabW carillonref05_Put.tab1 carillonref05_Put.bits1 (fun HT_ HW_ => ?_)
      generalize w7.drew = w8 at BK196 HB hHeld ⊢
      refine pure_ (i := 0) (N := some 3) (v := ?_) (a' := ?_) #[true, false, false, false, false, false, false, false, false, false, false, false] rfl rfl (any_of HT_.out (by kernel_rfl)) (fun _ _ _ h => h) (Or.inl ⟨by rfl, ?_⟩) ?_ ?_
      rotate_left
      · intro w'
        go_simp
        with_reducible rfl
      rotate_left
      · simp only [Act.put, List.setIfInBounds_toArray, List.set_cons_zero, List.set_cons_succ, i64_w, i32_w]
        rfl
      refine pure_ (i := 3) (N := some 6) (v := ?_) (a' := ?_) #[true, false, false, true, false, false, false, false, false, false, false, false] rfl rfl (any_of HT_.out (by kernel_rfl)) (fun _ _ _ h => h) (Or.inl ⟨by rfl, ?_⟩) ?_ ?_
      rotate_left
      · intro w'
        go_simp
        with_reducible rfl
      rotate_left
      · simp only [Act.put, List.setIfInBounds_toArray, List.set_cons_zero, List.set_cons_succ, i64_w, i32_w]
        rfl
      refine pure_ (i := 7) (N := some 10) (v := ?_) (a' := ?_) #[true, false, false, true, false, false, false, true, false, false, false, false] rfl rfl (any_of HT_.out (by kernel_rfl)) (fun _ _ _ h => h) (Or.inl ⟨by rfl, ?_⟩) ?_ ?_
      rotate_left
      · intro w'
        go_simp
        with_reducible rfl
      rotate_left
      · simp only [Act.put, List.setIfInBounds_toArray, List.set_cons_zero, List.set_cons_succ, i64_w, i32_w]
        rfl
      refine take_ (i := 1) (N := some 4) (v := ?_) (a' := ?_) #[true, true, false, true, false, false, false, true, false, false, false, false] rfl rfl (take_ofW HT_.out HW_.out (by kernel_rfl)) (fun _ _ _ h => h) (Or.inl ⟨by rfl, ?_⟩) hHeld ?_ ?_
      rotate_left
      · rintro w' ⟨s0, s1, s2⟩
        go_simp
        with_reducible rfl
      rotate_left
      · simp only [Act.put, List.setIfInBounds_toArray, List.set_cons_zero, List.set_cons_succ, i64_w, i32_w]
        rfl
      refine take_ (i := 4) (N := some 7) (v := ?_) (a' := ?_) #[true, true, false, true, true, false, false, true, false, false, false, false] rfl rfl (take_ofW HT_.out HW_.out (by kernel_rfl)) (fun _ _ _ h => h) (Or.inl ⟨by rfl, ?_⟩) hHeld ?_ ?_
      rotate_left
      · rintro w' ⟨s0, s1, s2⟩
        go_simp
        with_reducible rfl
      rotate_left
      · simp only [Act.put, List.setIfInBounds_toArray, List.set_cons_zero, List.set_cons_succ, i64_w, i32_w]
        rfl
      refine take_ (i := 8) (N := some 11) (v := ?_) (a' := ?_) #[true, true, false, true, true, false, false, true, true, false, false, false] rfl rfl (take_ofW HT_.out HW_.out (by kernel_rfl)) (fun _ _ _ h => h) (Or.inl ⟨by rfl, ?_⟩) hHeld ?_ ?_
      rotate_left
      · rintro w' ⟨s0, s1, s2⟩
        go_simp
        with_reducible rfl
      rotate_left
      · simp only [Act.put, List.setIfInBounds_toArray, List.set_cons_zero, List.set_cons_succ, i64_w, i32_w]
        rfl
      refine one_ (i := 2) (N := some 5) #[true, true, true, true, true, false, false, true, true, false, false, false] rfl rfl (one_of HT_.out (by kernel_rfl)) (by decide) (fun K hK => ?_)
      refine goes_ Try.func47 (by kernel_rfl) rfl #[.int .i64 a0_0, .int .i64 1] (by rfl) rfl rfl (by (try simp only [List.map_toArray, List.map_cons, List.map_nil]); first | done | rfl | (simp only [List.length_drop, List.length_take]; rfl)) ?_
      with_reducible refine (carillonref01_Put.calls k a0_0 1 t197 _ A2.out).mono ?_
      rintro e w9 ⟨v198, rfl, ho0, hb⟩
      refine ⟨_, rfl, ?_⟩
      have n0_ := Aside0.mk (Kd.R_lower ho0 (below_size (by repeat (first | (with_reducible first | exact HB.out | apply below_alloc | apply pw_below_drewN | apply below_drew1 | refine below_set ?_ GE196.out) | exact HB.out))))
      have n1_ := Aside0.mk (blk_below (g := gb196) (o := .cells #[.int .i64 a0_0, .int .i64 a0_1, .int .i64 a0_2] 26 (0, 0)) (by (with_reducible repeat (first | refine blk_drewN ?_ _ | refine blk_drew ?_ | refine blk_alloc ?_ _)); exact BK196.out) hb)
      have n2_ := Aside0.mk (below_step (by repeat (first | (with_reducible first | exact HB.out | apply below_alloc | apply pw_below_drewN | apply below_drew1 | refine below_set ?_ GE196.out) | exact HB.out)) hb)
      clear BK196
      clear HB
      have HO199 := n0_
      have BK196 := n1_
      have HB := n2_
      clear n0_ n1_ n2_
      (try clear hb)
      (try clear hb2)
      (try clear hk)
      (try clear hi)
      (try clear ho0)
      refine hK.out _ _ ⟨(blk_cell BK196.out 0).trans rfl, (blk_cell BK196.out 1).trans rfl, (blk_cell BK196.out 2).trans rfl⟩ (fun hHeld => ?_)
      clear hK K
      refine norm_ (a' := ?_) ?_ ?_
      rotate_left
      · show Act.put _ (some 5) _ = _
        simp only [Act.put, List.setIfInBounds_toArray, List.set_cons_zero, List.set_cons_succ, i64_w, i32_w]
        rfl
      refine one_ (i := 5) (N := some 8) #[true, true, true, true, true, true, false, true, true, false, false, false] rfl rfl (one_of HT_.out (by kernel_rfl)) (by decide) (fun K hK => ?_)
      refine goes_ Try.func47 (by kernel_rfl) rfl #[.int .i64 a0_1, .int .i64 1] (by rfl) rfl rfl (by (try simp only [List.map_toArray, List.map_cons, List.map_nil]); first | done | rfl | (simp only [List.length_drop, List.length_take]; rfl)) ?_
      with_reducible refine (carillonref01_Put.calls k a0_1 1 t200 _ A3.out).mono ?_
      rintro e w10 ⟨v201, rfl, ho0, hb⟩
      refine ⟨_, rfl, ?_⟩
      have n0_ := Aside0.mk (Kd.R_elder' (by (with_reducible repeat (first | apply Kd.R_alloc | apply Kd.R_drewN | apply Kd.R_drew)); exact HO199.out) (Kd.R_base ho0) hb)
      have n1_ := Aside0.mk (Kd.R_lower (Kd.R_new' ho0 (Kd.R_lt (by (with_reducible repeat (first | apply Kd.R_alloc | apply Kd.R_drewN | apply Kd.R_drew)); exact HO199.out))) (below_size (by repeat (first | (with_reducible first | exact HB.out | apply below_alloc | apply pw_below_drewN | apply below_drew1 | refine below_set ?_ GE196.out) | exact HB.out))))
      have n2_ := Aside0.mk (blk_below (g := gb196) (o := .cells #[.int .i64 a0_0, .int .i64 a0_1, .int .i64 a0_2] 26 (0, 0)) (by (with_reducible repeat (first | refine blk_drewN ?_ _ | refine blk_drew ?_ | refine blk_alloc ?_ _)); exact BK196.out) hb)
      have n3_ := Aside0.mk (below_step (by repeat (first | (with_reducible first | exact HB.out | apply below_alloc | apply pw_below_drewN | apply below_drew1 | refine below_set ?_ GE196.out) | exact HB.out)) hb)
      clear HO199
      clear BK196
      clear HB
      have HO199 := n0_
      have HO202 := n1_
      have BK196 := n2_
      have HB := n3_
      clear n0_ n1_ n2_ n3_
      (try clear hb)
      (try clear hb2)
      (try clear hk)
      (try clear hi)
      (try clear ho0)
      obtain ⟨Ao12, co12, eo12⟩ := Kd.R_slice HO202.out
      (first | subst eo12 | (injection eo12 with f1_ f2_ f3_; have f4_ := f1_.symm; have f5_ := f3_.symm; clear f1_ f2_ f3_; subst f4_; subst f5_))
      refine hK.out _ _ ⟨(blk_cell BK196.out 0).trans rfl, (blk_cell BK196.out 1).trans rfl, (blk_cell BK196.out 2).trans rfl⟩ (fun hHeld => ?_)
      clear hK K
      refine norm_ (a' := ?_) ?_ ?_
      rotate_left
      · show Act.put _ (some 8) _ = _
        simp only [Act.put, List.setIfInBounds_toArray, List.set_cons_zero, List.set_cons_succ, i64_w, i32_w]
        rfl
      refine one_ (i := 6) (N := some 9) #[true, true, true, true, true, true, true, true, true, false, false, false] rfl rfl (one_of HT_.out (by kernel_rfl)) (by decide) (fun K hK => ?_)
      refine Kd.R_append_rows_step (Kd.int .u8) (w0 := w) w.heap.size (by rfl) (.tmp 5) (.tmp 8) 36 5 (.int .u8 0) 1 rfl Try.underlying36 info5 rfl (by decide) (by omega) v198 t197 t200 _ _ _ (fun k_ => some k_ ≠ (.slice Ao12 t200.length co12 : Value).ownBlock) (fun _ => False) rfl rfl ?aO ?aR (fun _ _ h => h) (fun _ h => h.elim) ?aF ?aB ?aS ?aL ?_
      (case aR => repeat (first | exact (Kd.R_reads' HO202.out).2.2 | (with_reducible refine Kd.C_alloc ?_ _) | (with_reducible refine Kd.C_drewN ?_ _) | (with_reducible refine Kd.C_drew ?_)))
      (case aB => exact (by repeat (first | (with_reducible first | exact HB.out | apply below_alloc | apply pw_below_drewN | apply below_drew1 | refine below_set ?_ GE196.out) | exact HB.out)))
      (case aF => exact (fun k_ hk => Kd.fresh' (Kd.R_lt (by (with_reducible repeat (first | apply Kd.R_alloc | apply Kd.R_drewN | apply Kd.R_drew)); exact HO202.out)) k_ hk))
      (case aO => exact (by (with_reducible repeat (first | apply Kd.R_alloc | apply Kd.R_drewN | apply Kd.R_drew)); exact Kd.R_mono HO199.out (fun _ hk => hk.2)))
      (case aS => exact (below_size (by repeat (first | (with_reducible first | exact HB.out | apply below_alloc | apply pw_below_drewN | apply below_drew1 | refine below_set ?_ GE196.out) | exact HB.out))))
      (case aL => have := LMc4.out; omega)
      intro v204 w11 ho hb hg hat
      rw [← Ny203.out] at ho
      have n0_ := Aside0.mk (blk_grown (g := gb196) (o := .cells #[.int .i64 a0_0, .int .i64 a0_1, .int .i64 a0_2] 26 (0, 0)) (by (with_reducible repeat (first | refine blk_drewN ?_ _ | refine blk_drew ?_ | refine blk_alloc ?_ _)); exact BK196.out) hg (Kd.R_ne HO199.out BK196.out (by decide)))
      have n1_ := Aside0.mk (Kd.R_after (ok := (fun _ => True)) (by (with_reducible repeat (first | apply Kd.R_alloc | apply Kd.R_drewN | apply Kd.R_drew)); exact HO202.out) hg hat)
      have n2_ := Aside0.mk (hb)
      have n3_ := Aside0.mk (ho)
      clear BK196
      clear HO202
      clear HB
      clear HO199
      have BK196 := n0_
      have HO202 := n1_
      have HB := n2_
      have HO205 := n3_
      clear n0_ n1_ n2_ n3_
      clear ho hb hg hat
      refine hK.out _ _ ⟨(blk_cell BK196.out 0).trans rfl, (blk_cell BK196.out 1).trans rfl, (blk_cell BK196.out 2).trans rfl⟩ (fun hHeld => ?_)
      clear hK K
      refine norm_ (a' := ?_) ?_ ?_
      rotate_left
      · show Act.put _ (some 9) _ = _
        simp only [Act.put, List.setIfInBounds_toArray, List.set_cons_zero, List.set_cons_succ, i64_w, i32_w]
        rfl
      refine one_ (i := 9) (N := some 12) #[true, true, true, true, true, true, true, true, true, true, false, false] rfl rfl (one_of HT_.out (by kernel_rfl)) (by decide) (fun K hK => ?_)
      refine goes_ Try.func47 (by kernel_rfl) rfl #[.int .i64 a0_2, .int .i64 2] (by rfl) rfl rfl (by (try simp only [List.map_toArray, List.map_cons, List.map_nil]); first | done | rfl | (simp only [List.length_drop, List.length_take]; rfl)) ?_
      with_reducible refine (carillonref01_Put.calls k a0_2 2 t206 _ A5.out).mono ?_
      rintro e w13 ⟨v207, rfl, ho0, hb⟩
      refine ⟨_, rfl, ?_⟩
      have n0_ := Aside0.mk (Kd.R_elder' (by (with_reducible repeat (first | apply Kd.R_alloc | apply Kd.R_drewN | apply Kd.R_drew)); exact HO202.out) (Kd.R_base ho0) hb)
      have n1_ := Aside0.mk (Kd.R_elder' (by (with_reducible repeat (first | apply Kd.R_alloc | apply Kd.R_drewN | apply Kd.R_drew)); exact HO205.out) (Kd.R_base ho0) hb)
      have n2_ := Aside0.mk (Kd.R_lower (Kd.R_new' (Kd.R_new' ho0 (Kd.R_lt (by (with_reducible repeat (first | apply Kd.R_alloc | apply Kd.R_drewN | apply Kd.R_drew)); exact HO202.out))) (Kd.R_lt (by (with_reducible repeat (first | apply Kd.R_alloc | apply Kd.R_drewN | apply Kd.R_drew)); exact HO205.out))) (below_size (by repeat (first | (with_reducible first | exact HB.out | apply below_alloc | apply pw_below_drewN | apply below_drew1 | refine below_set ?_ GE196.out) | exact HB.out))))
      have n3_ := Aside0.mk (blk_below (g := gb196) (o := .cells #[.int .i64 a0_0, .int .i64 a0_1, .int .i64 a0_2] 26 (0, 0)) (by (with_reducible repeat (first | refine blk_drewN ?_ _ | refine blk_drew ?_ | refine blk_alloc ?_ _)); exact BK196.out) hb)
      have n4_ := Aside0.mk (below_step (by repeat (first | (with_reducible first | exact HB.out | apply below_alloc | apply pw_below_drewN | apply below_drew1 | refine below_set ?_ GE196.out) | exact HB.out)) hb)
      clear HO202
      clear HO205
      clear BK196
      clear HB
      have HO202 := n0_
      have HO205 := n1_
      have HO208 := n2_
      have BK196 := n3_
      have HB := n4_
      clear n0_ n1_ n2_ n3_ n4_
      (try clear hb)
      (try clear hb2)
      (try clear hk)
      (try clear hi)
      (try clear ho0)
      obtain ⟨Ao15, co15, eo15⟩ := Kd.R_slice HO208.out
      (first | subst eo15 | (injection eo15 with f1_ f2_ f3_; have f4_ := f1_.symm; have f5_ := f3_.symm; clear f1_ f2_ f3_; subst f4_; subst f5_))
      refine hK.out _ _ ⟨(blk_cell BK196.out 0).trans rfl, (blk_cell BK196.out 1).trans rfl, (blk_cell BK196.out 2).trans rfl⟩ (fun hHeld => ?_)
      clear hK K
      refine norm_ (a' := ?_) ?_ ?_
      rotate_left
      · show Act.put _ (some 12) _ = _
        simp only [Act.put, List.setIfInBounds_toArray, List.set_cons_zero, List.set_cons_succ, i64_w, i32_w]
        rfl
      refine one_ (i := 10) (N := some 13) #[true, true, true, true, true, true, true, true, true, true, true, false] rfl rfl (one_of HT_.out (by kernel_rfl)) (by decide) (fun K hK => ?_)
      refine Kd.R_append_rows_step (Kd.int .u8) (w0 := w) w.heap.size (by rfl) (.tmp 9) (.tmp 12) 36 5 (.int .u8 0) 1 rfl Try.underlying36 info5 rfl (by decide) (by omega) v204 y203 t206 _ _ _ (fun k_ => some k_ ≠ (.slice Ao12 t200.length co12 : Value).ownBlock ∧ some k_ ≠ (.slice Ao15 t206.length co15 : Value).ownBlock) (fun _ => False) rfl rfl ?aO ?aR (fun _ _ h => h) (fun _ h => h.elim) ?aF ?aB ?aS ?aL ?_
      (case aR => repeat (first | exact (Kd.R_reads' HO208.out).2.2 | (with_reducible refine Kd.C_alloc ?_ _) | (with_reducible refine Kd.C_drewN ?_ _) | (with_reducible refine Kd.C_drew ?_)))
      (case aB => exact (by repeat (first | (with_reducible first | exact HB.out | apply below_alloc | apply pw_below_drewN | apply below_drew1 | refine below_set ?_ GE196.out) | exact HB.out)))
      (case aF => exact (fun k_ hk => ⟨Kd.fresh' (Kd.R_lt (by (with_reducible repeat (first | apply Kd.R_alloc | apply Kd.R_drewN | apply Kd.R_drew)); exact HO202.out)) k_ hk, Kd.fresh' (Kd.R_lt (by (with_reducible repeat (first | apply Kd.R_alloc | apply Kd.R_drewN | apply Kd.R_drew)); exact HO208.out)) k_ hk⟩))
      (case aO => exact (by (with_reducible repeat (first | apply Kd.R_alloc | apply Kd.R_drewN | apply Kd.R_drew)); exact HO205.out))
      (case aS => exact (below_size (by repeat (first | (with_reducible first | exact HB.out | apply below_alloc | apply pw_below_drewN | apply below_drew1 | refine below_set ?_ GE196.out) | exact HB.out))))
      (case aL => have := LMc6.out; omega)
      intro v210 w14 ho hb hg hat
      rw [← Ny209.out] at ho
      have n0_ := Aside0.mk (blk_grown (g := gb196) (o := .cells #[.int .i64 a0_0, .int .i64 a0_1, .int .i64 a0_2] 26 (0, 0)) (by (with_reducible repeat (first | refine blk_drewN ?_ _ | refine blk_drew ?_ | refine blk_alloc ?_ _)); exact BK196.out) hg (Kd.R_ne HO205.out BK196.out (by decide)))
      have n1_ := Aside0.mk (Kd.R_after (ok := (fun k_ => some k_ ≠ (.slice Ao15 t206.length co15 : Value).ownBlock)) (by (with_reducible repeat (first | apply Kd.R_alloc | apply Kd.R_drewN | apply Kd.R_drew)); exact Kd.R_mono HO202.out (fun _ hk => ⟨hk.2, hk.1.2⟩)) hg hat)
      have n2_ := Aside0.mk (Kd.R_after (ok := (fun k_ => some k_ ≠ (.slice Ao12 t200.length co12 : Value).ownBlock)) (by (with_reducible repeat (first | apply Kd.R_alloc | apply Kd.R_drewN | apply Kd.R_drew)); exact Kd.R_mono HO208.out (fun _ hk => ⟨hk.1.2, hk.2⟩)) hg hat)
      have n3_ := Aside0.mk (hb)
      have n4_ := Aside0.mk (ho)
      clear BK196
      clear HO202
      clear HO208
      clear HB
      clear HO205
      have BK196 := n0_
      have HO202 := n1_
      have HO208 := n2_
      have HB := n3_
      have HO211 := n4_
      clear n0_ n1_ n2_ n3_ n4_
      clear ho hb hg hat
      refine hK.out _ _ ⟨(blk_cell BK196.out 0).trans rfl, (blk_cell BK196.out 1).trans rfl, (blk_cell BK196.out 2).trans rfl⟩ (fun hHeld => ?_)
      clear hK K
      refine norm_ (a' := ?_) ?_ ?_
      rotate_left
      · show Act.put _ (some 13) _ = _
        simp only [Act.put, List.setIfInBounds_toArray, List.set_cons_zero, List.set_cons_succ, i64_w, i32_w]
        rfl
      refine pure_ (i := 11) (N := some 2) (v := ?_) (a' := ?_) #[true, true, true, true, true, true, true, true, true, true, true, true] rfl rfl (any_of HT_.out (by kernel_rfl)) (fun _ _ _ h => h) (Or.inl ⟨by rfl, ?_⟩) ?_ ?_
      rotate_left
      · intro w'
        go_simp
        with_reducible rfl
      rotate_left
      · simp only [Act.put, List.setIfInBounds_toArray, List.set_cons_zero, List.set_cons_succ, i64_w, i32_w]
        rfl
      refine done_ (done_of HT_.out (by kernel_rfl)) ?_
      try go_wp2
      all_goals
        go_ret
        exact ⟨_, by first | rfl | (simp [errW_none, errW_some] <;> rfl) | (simp [*, errW_none, errW_some] <;> rfl), by (with_reducible repeat (first | apply Kd.R_alloc | apply Kd.R_drewN | apply Kd.R_drew)); exact Kd.R_mono HO211.out (fun _ hk => trivial), by repeat (first | (with_reducible first | exact HB.out | apply below_alloc | apply pw_below_drewN | apply below_drew1 | refine below_set ?_ GE196.out) | exact HB.out)⟩
    · rw [if_neg c6] at H
      exact absurd H (by simp)
  · rw [if_neg c4] at H
    exact absurd H (by simp)
def carillonref07_Put.j3 (k : Nat) (y3_3 : List Int) : Option (List Int) := some y3_3
def carillonref07_Put.j2 (k : Nat) (x2_1_0 x2_1_1 x2_1_2 x2_1_3 x2_1_4 x2_1_5 x2_1_6 x2_1_7 x2_1_8 x2_1_9 x2_1_10 x2_1_11 x2_1_12 x2_1_13 x2_1_14 x2_1_15 x2_1_16 x2_1_17 x2_1_18 x2_1_19 x2_1_20 x2_1_21 x2_1_22 : Int) (y2_3 : List Int) : Option (List Int) := if x2_1_0 = 2 then (if (y2_3.length + (10 : Int).toNat) * 1 ≤ 140737488355328 then (carillonref07_Put.j3 k (y2_3 ++ List.replicate (10 : Int).toNat 0 : List Int)) else (none)) else (if x2_1_0 = 11 then ((carillonref01_Put.f k x2_1_11 2).bind fun t2012 => (if (y2_3.length + t2012.length) * 1 ≤ 140737488355328 then (if ((y2_3 ++ t2012 : List Int).length + [0, IntKind.u8.wrap x2_1_12].length) * 1 ≤ 140737488355328 then ((carillonref05_Put.f k x2_1_13 x2_1_14 x2_1_15).bind fun t2033 => (if (((y2_3 ++ t2012 : List Int) ++ [0, IntKind.u8.wrap x2_1_12] : List Int).length + t2033.length) * 1 ≤ 140737488355328 then (if ((((y2_3 ++ t2012 : List Int) ++ [0, IntKind.u8.wrap x2_1_12] : List Int) ++ t2033 : List Int).length + [IntKind.u8.wrap x2_1_16].length) * 1 ≤ 140737488355328 then ((carillonref01_PutId.f k x2_1_17).bind fun t2054 => (if (((((y2_3 ++ t2012 : List Int) ++ [0, IntKind.u8.wrap x2_1_12] : List Int) ++ t2033 : List Int) ++ [IntKind.u8.wrap x2_1_16] : List Int).length + t2054.length) * 1 ≤ 140737488355328 then ((carillonref01_Put.f k x2_1_18 2).bind fun t2065 => (if ((((((y2_3 ++ t2012 : List Int) ++ [0, IntKind.u8.wrap x2_1_12] : List Int) ++ t2033 : List Int) ++ [IntKind.u8.wrap x2_1_16] : List Int) ++ t2054 : List Int).length + t2065.length) * 1 ≤ 140737488355328 then (if (((((((y2_3 ++ t2012 : List Int) ++ [0, IntKind.u8.wrap x2_1_12] : List Int) ++ t2033 : List Int) ++ [IntKind.u8.wrap x2_1_16] : List Int) ++ t2054 : List Int) ++ t2065 : List Int).length + [IntKind.u8.wrap x2_1_19].length) * 1 ≤ 140737488355328 then (carillonref07_Put.j3 k (((((((y2_3 ++ t2012 : List Int) ++ [0, IntKind.u8.wrap x2_1_12] : List Int) ++ t2033 : List Int) ++ [IntKind.u8.wrap x2_1_16] : List Int) ++ t2054 : List Int) ++ t2065 : List Int) ++ [IntKind.u8.wrap x2_1_19] : List Int)) else (none)) else (none))) else (none))) else (none)) else (none))) else (none)) else (none))) else (if x2_1_0 = 13 then (if (y2_3.length + [IntKind.u8.wrap x2_1_20, IntKind.u8.wrap x2_1_21, IntKind.u8.wrap x2_1_22, 0].length) * 1 ≤ 140737488355328 then (carillonref07_Put.j3 k (y2_3 ++ [IntKind.u8.wrap x2_1_20, IntKind.u8.wrap x2_1_21, IntKind.u8.wrap x2_1_22, 0] : List Int)) else (none)) else (carillonref07_Put.j3 k y2_3)))
def carillonref07_Put.j1 (k : Nat) (x1_1_0 x1_1_1 x1_1_2 x1_1_3 x1_1_4 x1_1_5 x1_1_6 x1_1_7 x1_1_8 x1_1_9 x1_1_10 x1_1_11 x1_1_12 x1_1_13 x1_1_14 x1_1_15 x1_1_16 x1_1_17 x1_1_18 x1_1_19 x1_1_20 x1_1_21 x1_1_22 : Int) (y1_3 : List Int) : Option (List Int) := (carillonref07_targeted.f x1_1_0).bind fun t1003 => (if t1003 = true then ((carillonref04_Put.f k x1_1_9 x1_1_10).bind fun t1006 => (if (y1_3.length + t1006.length) * 1 ≤ 140737488355328 then (carillonref07_Put.j2 k x1_1_0 x1_1_1 x1_1_2 x1_1_3 x1_1_4 x1_1_5 x1_1_6 x1_1_7 x1_1_8 x1_1_9 x1_1_10 x1_1_11 x1_1_12 x1_1_13 x1_1_14 x1_1_15 x1_1_16 x1_1_17 x1_1_18 x1_1_19 x1_1_20 x1_1_21 x1_1_22 (y1_3 ++ t1006 : List Int)) else (none))) else (carillonref07_Put.j2 k x1_1_0 x1_1_1 x1_1_2 x1_1_3 x1_1_4 x1_1_5 x1_1_6 x1_1_7 x1_1_8 x1_1_9 x1_1_10 x1_1_11 x1_1_12 x1_1_13 x1_1_14 x1_1_15 x1_1_16 x1_1_17 x1_1_18 x1_1_19 x1_1_20 x1_1_21 x1_1_22 y1_3))
def carillonref07_Put.f (k : Nat) (a0_0 a0_1 a0_2 a0_3 a0_4 a0_5 a0_6 a0_7 a0_8 a0_9 a0_10 a0_11 a0_12 a0_13 a0_14 a0_15 a0_16 a0_17 a0_18 a0_19 a0_20 a0_21 a0_22 : Int) : Option (List Int) := (carillonref07_stamped.f a0_0).bind fun t10 => (if t10 = true then ((carillonref02_Put.f k a0_8).bind fun t13 => (if t13.length * 1 ≤ 140737488355328 then (carillonref07_Put.j1 k a0_0 a0_1 a0_2 a0_3 a0_4 a0_5 a0_6 a0_7 a0_8 a0_9 a0_10 a0_11 a0_12 a0_13 a0_14 a0_15 a0_16 a0_17 a0_18 a0_19 a0_20 a0_21 a0_22 t13) else (none))) else (carillonref07_Put.j1 k a0_0 a0_1 a0_2 a0_3 a0_4 a0_5 a0_6 a0_7 a0_8 a0_9 a0_10 a0_11 a0_12 a0_13 a0_14 a0_15 a0_16 a0_17 a0_18 a0_19 a0_20 a0_21 a0_22 []))
abbrev carillonref07_Put.v0 (x0 x1 x2 x3 x4 x5 x6 x7 x8 x9 x10 x11 x12 x13 x14 x15 x16 x17 x18 x19 x20 x21 x22 : Int) : Value := .agg #[.int .i64 x0, .int .i64 x1, .int .i64 x2, .int .i64 x3, .int .u64 x4, .int .i64 x5, .int .i64 x6, .int .i64 x7, .int .i64 x8, .int .u64 x9, .int .i64 x10, .int .i64 x11, .int .i64 x12, .int .i64 x13, .int .i64 x14, .int .i64 x15, .int .i64 x16, .int .u64 x17, .int .i64 x18, .int .i64 x19, .int .i64 x20, .int .i64 x21, .int .i64 x22]
abbrev carillonref07_Put.c1 (x0 x1 x2 x3 x4 x5 x6 x7 x8 x9 x10 x11 x12 x13 x14 x15 x16 x17 x18 x19 x20 x21 x22 : Int) : Array Value := #[.int .i64 x0, .int .i64 x1, .int .i64 x2, .int .i64 x3, .int .u64 x4, .int .i64 x5, .int .i64 x6, .int .i64 x7, .int .i64 x8, .int .u64 x9, .int .i64 x10, .int .i64 x11, .int .i64 x12, .int .i64 x13, .int .i64 x14, .int .i64 x15, .int .i64 x16, .int .u64 x17, .int .i64 x18, .int .i64 x19, .int .i64 x20, .int .i64 x21, .int .i64 x22]
open Go.Proofs.Ytiomlbkakiienaa.E in
set_option maxHeartbeats 60000000 in
set_option maxRecDepth 100000 in
theorem carillonref07_Put.calls (k : Nat) (bO cH cI cJ cK cL cM cN bP cO b4 b5 b6 b7 b8 b9 ca cb cc cd ce cf cg : Int) (r : List Int) (w : World) (h : carillonref07_Put.f k bO cH cI cJ cK cL cM cN bP cO b4 b5 b6 b7 b8 b9 ca cb cc cd ce cf cg = some r) :
    Calls Try.prog 27 #[.agg #[.int .i64 bO, .int .i64 cH, .int .i64 cI, .int .i64 cJ, .int .u64 cK, .int .i64 cL, .int .i64 cM, .int .i64 cN, .int .i64 bP, .int .u64 cO, .int .i64 b4, .int .i64 b5, .int .i64 b6, .int .i64 b7, .int .i64 b8, .int .i64 b9, .int .i64 ca, .int .u64 cb, .int .i64 cc, .int .i64 cd, .int .i64 ce, .int .i64 cf, .int .i64 cg]] w fun e w' => ∃ v0_ : Value, e = .returned v0_ ∧ Kd.R (Kd.int .u8) 5 w' w.heap.size (fun _ => True) v0_ r ∧ Below w.heap.size w w' := by
 have H := h
 clear h
 unfold carillonref07_Put.f at H
 refine calls_of_wp (fn := Try.f27) (by kernel_rfl) rfl ?_
 have hS := St.enter #[(carillonref07_Put.v0 bO cH cI cJ cK cL cM cN bP cO b4 b5 b6 b7 b8 b9 ca cb cc cd ce cf cg)] 81 (by simp) [(0, (carillonref07_Put.v0 bO cH cI cJ cK cL cM cN bP cO b4 b5 b6 b7 b8 b9 ca cb cc cd ce cf cg))] (by simp)
 have fU := Below.refl w.heap.size w
 refine wp_seq_k (fun K1 gt => ?_)
 refine reg_seq (I := I1_ w) (ps := [IsB (carillonref07_Put.c1 bO cH cI cJ cK cL cM cN bP cO b4 b5 b6 b7 b8 b9 ca cb cc cd ce cf cg) 28 w.heap.size, IsV (.slice none 0 0)]) (by kernel_rfl) ?_ ?_ rfl hS fU ?_ ?_
 ·exact bs1
 ·exact .cons (Stays.b _ _ _) (.v (.nil))
 ·refine .on rfl (fun a w hS hI hp => does_var (x_box rfl (congrArg Value.cells (hS.get 0 rfl))) (hI).size) ?_
  refine .on rfl (fun a w hS hI hp => does_val (x_assign rfl (rfl)) rfl) ?_
  exact .nil
 clear hS
 intro hR w3 hS g9 hp
 replace hS := hS.nil
 obtain ⟨g4, fG, dP, aG⟩ := (show IsB _ 28 _ (sl _ 1) _ from hp 0 (by decide))
 have hS := hS.cons fG
 clear hp fG
 refine gt _ _ ?_
 refine wp_seq_k (fun K5 gu => ?_)
 refine reg_seq (I := I2_ w w3) (ps := [IsV (.slice none 0 0)]) (by kernel_rfl) ?_ ?_ rfl hS ⟨g9, (bR w3)⟩ ?_ ?_
 ·exact bs2
 ·exact .v (.nil)
 ·refine .on rfl (fun a w hS hI hp => does_val (x_assign rfl (rfl)) rfl) ?_
  exact .nil
 clear hS
 intro hT w7 hS fL hp
 have fI : sl _ 3 = .slice none 0 0 := hp 0 (by decide)
 have hS := hS.cons fI
 clear hp fI
 refine gu _ _ ?_
 refine wp_seq_k (fun K8 gv => ?_)
 have J1 : ∀ (d9 : Act) (bU : World) (aD a1 a2 a3 a4 a5 a6 a7 a8 ax au aJ aK aL aM aN aO aP aQ aR aS aT aU : Int) (ap : Nat) (aq : List Int) (bf : Option Addr) (aY : Nat), carillonref07_Put.j1 k aD a1 a2 a3 a4 a5 a6 a7 a8 ax au aJ aK aL aM aN aO aP aQ aR aS aT aU aq = some r → St 81 [(1, .pointer (some ⟨ap, 0, none⟩)), (3, .slice bf aq.length aY)] d9 → Below w.heap.size w bU → w.heap.size ≤ ap → bU.heap[ap]? = some (.cells (carillonref07_Put.c1 aD a1 a2 a3 a4 a5 a6 a7 a8 ax au aJ aK aL aM aN aO aP aQ aR aS aT aU) 28 (0, 0)) → aq.length ≤ aY → Kd.R (Kd.int .u8) 5 bU w.heap.size (fun _ => True) (.slice bf aq.length aY) aq → K8 d9 bU := by
  intro d9 bU aD a1 a2 a3 a4 a5 a6 a7 a8 ax au aJ aK aL aM aN aO aP aQ aR aS aT aU ap aq bf aY H hS d0 bS ao fy dz
  unfold carillonref07_Put.j1 at H
  (try dsimp only at H)
  refine gv _ _ ?_
  refine wp_seq_k (fun fv ed => ?_)
  have J2 : ∀ (ea : Act) (aI : World) (am cx cy cz cA cB cC cD cE cF bQ aV aa aA aB aC ad aW aX ai aj ak al : Int) (ae : Nat) (ab : List Int) (aw : Option Addr) (av : Nat), carillonref07_Put.j2 k am cx cy cz cA cB cC cD cE cF bQ aV aa aA aB aC ad aW aX ai aj ak al ab = some r → St 81 [(1, .pointer (some ⟨ae, 0, none⟩)), (3, .slice aw ab.length av)] ea → Below w.heap.size w aI → w.heap.size ≤ ae → aI.heap[ae]? = some (.cells (carillonref07_Put.c1 am cx cy cz cA cB cC cD cE cF bQ aV aa aA aB aC ad aW aX ai aj ak al) 28 (0, 0)) → ab.length ≤ av → Kd.R (Kd.int .u8) 5 aI w.heap.size (fun _ => True) (.slice aw ab.length av) ab → fv ea aI := by
   intro ea aI am cx cy cz cA cB cC cD cE cF bQ aV aa aA aB aC ad aW aX ai aj ak al ae ab aw av H hS d1 fF ag fz bG
   unfold carillonref07_Put.j2 at H
   (try dsimp only at H)
   refine ed _ _ ?_
   refine wp_seq_k (fun fw ef => ?_)
   have J3 : ∀ (eb : Act) (cG : World) (aE : List Int) (aF : Option Addr) (ay : Nat), carillonref07_Put.j3 k aE = some r → St 81 [(3, .slice aF aE.length ay)] eb → Below w.heap.size w cG → aE.length ≤ ay → Kd.R (Kd.int .u8) 5 cG w.heap.size (fun _ => True) (.slice aF aE.length ay) aE → fw eb cG := by
    intro eb cG aE aF ay H hS d2 hC eC
    unfold carillonref07_Put.j3 at H
    (try dsimp only at H)
    obtain rfl := Option.some.inj H
    refine ef _ _ ?_
    refine wp_seq_k (fun hB eo => ?_)
    refine reg_seq (I := I2_ w cG) (ps := [IsV (.slice aF aE.length ay), IsV (.slice aF aE.length ay)]) (by kernel_rfl) ?_ ?_ rfl hS ⟨d2, (bR cG)⟩ ?_ ?_
    ·exact bs2
    ·exact .v (.v (.nil))
    ·refine .ms 0 rfl rfl rfl ?_
     refine .asg 0 rfl rfl rfl ?_
     exact .nil
    clear hS
    intro gs hH hS dB hp
    replace hS := hS.nil
    have fH : sl _ 2 = .slice aF aE.length ay := hp 1 (by decide)
    have hS := hS.cons fH
    clear hp fH
    refine eo _ _ ?_
    refine wp_ret ?_
    (try simp only [Exit.then, Exit.inBlock, Exit.jump, Exit.noGoto])
    exact bodyPost_ret (v := .slice aF aE.length ay) (results_single rfl (Vals.at (hS.get 0 rfl) .nil)) hS.nodef ⟨.slice aF aE.length ay, rfl, Kd.R_lower (Kd.R_below eC dB.2) (Nat.le_refl _), dB.1⟩
   refine wp_seq_k (fun hs eg => ?_)
   refine reg_seq (I := I2_ w aI) (ps := [VP ae 0, VI am]) (by kernel_rfl) ?_ ?_ rfl hS ⟨d1, (bR aI)⟩ ?_ ?_
   ·exact bs2
   ·exact .v (.v (.nil))
   ·refine .on rfl (fun a w hS hI hp => does_val (x_fieldE (b := 0) rfl (hS.get 0 rfl) Try.underlying28 rfl rfl (by kernel_rfl)) rfl) ?_
    refine .on rfl (fun a w hS hI hp => does_val (x_load1 (d := .int .i64) rfl (hp.V 0 rfl rfl) (by kernel_rfl) rfl ((blk_cell (((hI.2).block ae (blk_lt ag)).trans ag) 0).trans rfl)) rfl) ?_
    exact .nil
   clear hS
   intro fZ dR hS dA hp
   have eP : sl _ 21 = .int .i64 am := hp 1 (by decide)
   have hS := hS.cons eP
   clear hp eP
   refine eg _ _ ?_
   refine wp_block ?_
   refine wp_seq_k (fun ht eh => ?_)
   refine reg_seq (I := I3_ w aI dR) (ps := [VB (decide (am = 2)), VB (decide (am = 2))]) (by kernel_rfl) ?_ ?_ rfl hS ⟨dA.1, dA.2, (bR dR)⟩ ?_ ?_
   ·exact bs3
   ·exact .v (.v (.nil))
   ·refine .on rfl (fun a w hS hI hp => does_val (x_bin rfl (hS.get 0 rfl) (rfl) (b_eql _ _ _ _ _ _)) rfl) ?_
    refine .asg 0 rfl rfl rfl ?_
    exact .nil
   clear hS
   intro f0 ci hS bH hp
   have eQ : sl _ 22 = .bool (decide (am = 2)) := hp 1 (by decide)
   have hS := hS.cons eQ
   clear hp eQ
   refine eh _ _ ?_
   by_cases c1 : am = 2
   ·rw [if_pos c1] at H
    by_cases c2 : (ab.length + (10 : Int).toNat) * 1 ≤ 140737488355328
    rotate_left
    ·rw [if_neg c2] at H
     exact absurd H (by simp)
    rw [if_pos c2] at H
    refine wp_cond_true ((hS.get 0 rfl).trans (bT (decide_eq_true c1))) ?_
    refine reg_seq_tail 1 (I := I3_ w aI ci) (ps := [IsV (.slice aw ab.length av)]) (by kernel_rfl) ?_ ?_ rfl hS ⟨bH.1, bH.2.1, (bR ci)⟩ ?_ ?_
    ·exact bs3
    ·exact .v (.nil)
    ·refine .ms 3 rfl rfl rfl ?_
     exact .nil
    clear hS
    intro f1 hE hS cm hp
    replace hS := (hS.nil).cons (hS.get 3 rfl)
    have eR : sl _ 24 = .slice aw ab.length av := hp 0 (by decide)
    have hS := hS.cons eR
    clear hp eR
    show wpList _ _ _ [_, _] _ _
    refine list_step rfl (does_zeros (ki := .i64) (W := w) (.tmp 24) _ 36 3 5 1 rfl (by kernel_rfl) (by kernel_rfl) (by kernel_rfl) (by decide) _ ab 10 (hS.get 0 rfl) (rfl) (Kd.R_below bG cm.2.1) cm.1 (by decide) c2) ?_
    rintro hd az ⟨hb, hr, hk⟩
    have gW := hk ae _ _ ((cm.2.1.block ae (blk_lt ag)).trans ag) (by decide)
    clear hk
    have de := hb
    replace hS := hS.nil
    obtain ⟨br, bv, rfl, ez, gy⟩ := Kd.R_reads hr
    have eE := hr
    clear hr
    refine hS.next (v := .slice br ((ab ++ List.replicate (10 : Int).toNat 0 : List Int).length) bv) (d := 25) rfl (by decide) (by rfl) ?_
    clear hS
    intro ec hS
    refine list_step rfl (R := fun v w' => Below _ _ w' ∧ (IsV (.slice br ((ab ++ List.replicate (10 : Int).toNat 0 : List Int).length) bv)) v w') (does_val (x_assign rfl (hS.get 0 rfl)) rfl) ?_
    rintro e3 cj ⟨hb, he⟩
    have df := below_step de hb
    have bV := below_step (bR az) hb
    obtain rfl : e3 = .slice br ((ab ++ List.replicate (10 : Int).toNat 0 : List Int).length) bv := he
    refine hS.next (v := .slice br ((ab ++ List.replicate (10 : Int).toNat 0 : List Int).length) bv) (d := 3) rfl (by decide) (by rfl) ?_
    clear hS
    intro f5 hS
    refine wpList_nil ?_
    replace hS := (hS.nil).cons (hS.get 0 rfl)
    (try simp only [Exit.then, Exit.inBlock])
    exact J3 _ _ (ab ++ List.replicate (10 : Int).toNat 0 : List Int) br bv H hS df ez (Kd.R_lower (Kd.R_below eE bV) (Nat.le_refl _))
   rw [if_neg c1] at H
   refine wp_cond_false ((hS.get 0 rfl).trans (bF (decide_eq_false c1))) ?_
   refine wp_seq_k (fun hu ei => ?_)
   refine reg_seq (I := I3_ w aI ci) (ps := [VB (decide (am = 11)), VB (decide (am = 11))]) (by kernel_rfl) ?_ ?_ rfl hS ⟨bH.1, bH.2.1, (bR ci)⟩ ?_ ?_
   ·exact bs3
   ·exact .v (.v (.nil))
   ·refine .on rfl (fun a w hS hI hp => does_val (x_bin rfl (hS.get 1 rfl) (rfl) (b_eql _ _ _ _ _ _)) rfl) ?_
    refine .asg 0 rfl rfl rfl ?_
    exact .nil
   clear hS
   intro f2 az hS bI hp
   replace hS := (((hS.nil).cons (hS.get 3 rfl)).cons (hS.get 2 rfl)).cons (hS.get 1 rfl)
   have eS : sl _ 26 = .bool (decide (am = 11)) := hp 1 (by decide)
   have hS := hS.cons eS
   clear hp eS
   refine ei _ _ ?_
   by_cases c2 : am = 11
   rotate_left
   ·rw [if_neg c2] at H
    refine wp_cond_false ((hS.get 0 rfl).trans (bF (decide_eq_false c2))) ?_
    refine wp_seq_k (fun fx ck => ?_)
    refine reg_seq (I := I3_ w aI az) (ps := [VB (decide (am = 13)), VB (decide (am = 13))]) (by kernel_rfl) ?_ ?_ rfl hS ⟨bI.1, bI.2.1, (bR az)⟩ ?_ ?_
    ·exact bs3
    ·exact .v (.v (.nil))
    ·refine .on rfl (fun a w hS hI hp => does_val (x_bin rfl (hS.get 1 rfl) (rfl) (b_eql _ _ _ _ _ _)) rfl) ?_
     refine .asg 0 rfl rfl rfl ?_
     exact .nil
    clear hS
    intro f3 bm hS bJ hp
    replace hS := ((hS.nil).cons (hS.get 3 rfl)).cons (hS.get 2 rfl)
    have e0 : sl _ 66 = .bool (decide (am = 13)) := hp 1 (by decide)
    have hS := hS.cons e0
    clear hp e0
    refine ck _ _ ?_
    by_cases c3 : am = 13
    rotate_left
    ·rw [if_neg c3] at H
     refine wp_cond_false ((hS.get 0 rfl).trans (bF (decide_eq_false c3))) ?_
     refine wp_skip ?_
     replace hS := (hS.nil).cons (hS.get 2 rfl)
     (try simp only [Exit.then, Exit.inBlock])
     exact J3 _ _ ab aw av H hS bJ.1 fz (Kd.R_lower (Kd.R_below bG bJ.2.1) (Nat.le_refl _))
    rw [if_pos c3] at H
    by_cases c4 : (ab.length + [IntKind.u8.wrap aj, IntKind.u8.wrap ak, IntKind.u8.wrap al, 0].length) * 1 ≤ 140737488355328
    rotate_left
    ·rw [if_neg c4] at H
     exact absurd H (by simp)
    rw [if_pos c4] at H
    refine wp_cond_true ((hS.get 0 rfl).trans (bT (decide_eq_true c3))) ?_
    refine reg_seq_tail 11 (I := I3_ w aI bm) (ps := [IsV (.slice aw ab.length av), VP ae 20, VI aj, IsV (.int .u8 (IntKind.u8.wrap aj)), VP ae 21, VI ak, IsV (.int .u8 (IntKind.u8.wrap ak)), VP ae 22, VI al, IsV (.int .u8 (IntKind.u8.wrap al)), IsR (Kd.int .u8) 5 bm.heap.size [IntKind.u8.wrap aj, IntKind.u8.wrap ak, IntKind.u8.wrap al, 0]]) (by kernel_rfl) ?_ ?_ rfl hS ⟨bJ.1, bJ.2.1, (bR bm)⟩ ?_ ?_
    ·exact bs3
    ·exact .v (.v (.v (.v (.v (.v (.v (.v (.v (.v (.cons (Stays.r _ _ _ _) (.nil)))))))))))
    ·refine .ms 2 rfl rfl rfl ?_
     refine .on rfl (fun a w hS hI hp => does_val (x_fieldE (b := 0) rfl (hS.get 1 rfl) Try.underlying28 rfl rfl (by kernel_rfl)) rfl) ?_
     refine .on rfl (fun a w hS hI hp => does_val (x_load1 (d := .int .i64) rfl (hp.V 1 rfl rfl) (by kernel_rfl) rfl ((blk_cell (((hI.2.1).block ae (blk_lt ag)).trans ag) 20).trans rfl)) rfl) ?_
     refine .on rfl (fun a w hS hI hp => does_val (x_convI rfl (by kernel_rfl) (by kernel_rfl) (hp.V 2 rfl rfl)) rfl) ?_
     refine .on rfl (fun a w hS hI hp => does_val (x_fieldE (b := 0) rfl (hS.get 1 rfl) Try.underlying28 rfl rfl (by kernel_rfl)) rfl) ?_
     refine .on rfl (fun a w hS hI hp => does_val (x_load1 (d := .int .i64) rfl (hp.V 4 rfl rfl) (by kernel_rfl) rfl ((blk_cell (((hI.2.1).block ae (blk_lt ag)).trans ag) 21).trans rfl)) rfl) ?_
     refine .on rfl (fun a w hS hI hp => does_val (x_convI rfl (by kernel_rfl) (by kernel_rfl) (hp.V 5 rfl rfl)) rfl) ?_
     refine .on rfl (fun a w hS hI hp => does_val (x_fieldE (b := 0) rfl (hS.get 1 rfl) Try.underlying28 rfl rfl (by kernel_rfl)) rfl) ?_
     refine .on rfl (fun a w hS hI hp => does_val (x_load1 (d := .int .i64) rfl (hp.V 7 rfl rfl) (by kernel_rfl) rfl ((blk_cell (((hI.2.1).block ae (blk_lt ag)).trans ag) 22).trans rfl)) rfl) ?_
     refine .on rfl (fun a w hS hI hp => does_val (x_convI rfl (by kernel_rfl) (by kernel_rfl) (hp.V 8 rfl rfl)) rfl) ?_
     refine .on rfl (fun a w hS hI hp => does_lit bm.heap.size 36 5 4 _ [(0, .int .u8 (IntKind.u8.wrap aj)), (1, .int .u8 (IntKind.u8.wrap ak)), (2, .int .u8 (IntKind.u8.wrap al)), (3, .int .u8 0)] [IntKind.u8.wrap aj, IntKind.u8.wrap ak, IntKind.u8.wrap al, 0] rfl (by kernel_rfl) (by rw [Array.toList_map]; exact (show [(0, a.eval (.tmp 71)), (1, a.eval (.tmp 74)), (2, a.eval (.tmp 77)), (3, a.eval (.const (.int .u8 0)))] = _ from (li_cons (hp.V 3 rfl rfl) (li_cons (hp.V 6 rfl rfl) (li_cons (hp.V 9 rfl rfl) (li_cons (rfl) rfl)))))) (by kernel_rfl) rfl (hI.2.2).size (Nat.le_of_ble_eq_true rfl)) ?_
     exact .nil
    clear hS
    intro f4 cS hS co hp
    replace hS := (hS.nil).cons (hS.get 2 rfl)
    have e1 : sl _ 68 = .slice aw ab.length av := hp 0 (by decide)
    obtain ⟨fe, fo, dO, gJ, er⟩ := Kd.R_reads (show Kd.R (Kd.int .u8) 5 cS bm.heap.size (fun _ => True) (sl _ 78) [IntKind.u8.wrap aj, IntKind.u8.wrap ak, IntKind.u8.wrap al, 0] from hp 10 (by decide))
    have g1 : Kd.R (Kd.int .u8) 5 cS bm.heap.size (fun _ => True) (.slice fe [IntKind.u8.wrap aj, IntKind.u8.wrap ak, IntKind.u8.wrap al, 0].length fo) [IntKind.u8.wrap aj, IntKind.u8.wrap ak, IntKind.u8.wrap al, 0] := dO ▸ (hp 10 (by decide))
    have hS := hS.cons e1
    have hS := hS.cons dO
    clear hp e1 dO
    show wpList _ _ _ [_, _] _ _
    refine list_step rfl (does_more (W := w) (.tmp 68) (.tmp 78) 36 5 1 rfl (by kernel_rfl) (by kernel_rfl) (by decide) _ ab [IntKind.u8.wrap aj, IntKind.u8.wrap ak, IntKind.u8.wrap al, 0] _ _ (hS.get 1 rfl) (hS.get 0 rfl) (Kd.R_below bG co.2.1) (Kd.C_below er (bR cS)) co.1 c4) ?_
    rintro hg fB ⟨hb, hr, hk⟩
    have gX := hk ae _ _ ((co.2.1.block ae (blk_lt ag)).trans ag) (by decide)
    clear hk
    have dh := hb
    replace hS := hS.nil
    obtain ⟨bs, bw, rfl, eA, gA⟩ := Kd.R_reads hr
    have eG := hr
    clear hr
    refine hS.next (v := .slice bs ((ab ++ [IntKind.u8.wrap aj, IntKind.u8.wrap ak, IntKind.u8.wrap al, 0] : List Int).length) bw) (d := 79) rfl (by decide) (by rfl) ?_
    clear hS
    intro f7 hS
    refine list_step rfl (R := fun v w' => Below _ _ w' ∧ (IsV (.slice bs ((ab ++ [IntKind.u8.wrap aj, IntKind.u8.wrap ak, IntKind.u8.wrap al, 0] : List Int).length) bw)) v w') (does_val (x_assign rfl (hS.get 0 rfl)) rfl) ?_
    rintro e5 hF ⟨hb, he⟩
    have dj := below_step dh hb
    have bX := below_step (bR fB) hb
    obtain rfl : e5 = .slice bs ((ab ++ [IntKind.u8.wrap aj, IntKind.u8.wrap ak, IntKind.u8.wrap al, 0] : List Int).length) bw := he
    refine hS.next (v := .slice bs ((ab ++ [IntKind.u8.wrap aj, IntKind.u8.wrap ak, IntKind.u8.wrap al, 0] : List Int).length) bw) (d := 3) rfl (by decide) (by rfl) ?_
    clear hS
    intro f9 hS
    refine wpList_nil ?_
    replace hS := (hS.nil).cons (hS.get 0 rfl)
    (try simp only [Exit.then, Exit.inBlock])
    exact J3 _ _ (ab ++ [IntKind.u8.wrap aj, IntKind.u8.wrap ak, IntKind.u8.wrap al, 0] : List Int) bs bw H hS dj eA (Kd.R_lower (Kd.R_below eG bX) (Nat.le_refl _))
   rw [if_pos c2] at H
   obtain ⟨ac, d5, H⟩ := Option.bind_eq_some_iff.mp H
   by_cases c3 : (ab.length + ac.length) * 1 ≤ 140737488355328
   rotate_left
   ·rw [if_neg c3] at H
    exact absurd H (by simp)
   rw [if_pos c3] at H
   by_cases c4 : ((ab ++ ac : List Int).length + [0, IntKind.u8.wrap aa].length) * 1 ≤ 140737488355328
   rotate_left
   ·rw [if_neg c4] at H
    exact absurd H (by simp)
   rw [if_pos c4] at H
   obtain ⟨af, d6, H⟩ := Option.bind_eq_some_iff.mp H
   by_cases c5 : (((ab ++ ac : List Int) ++ [0, IntKind.u8.wrap aa] : List Int).length + af.length) * 1 ≤ 140737488355328
   rotate_left
   ·rw [if_neg c5] at H
    exact absurd H (by simp)
   rw [if_pos c5] at H
   by_cases c6 : ((((ab ++ ac : List Int) ++ [0, IntKind.u8.wrap aa] : List Int) ++ af : List Int).length + [IntKind.u8.wrap ad].length) * 1 ≤ 140737488355328
   rotate_left
   ·rw [if_neg c6] at H
    exact absurd H (by simp)
   rw [if_pos c6] at H
   obtain ⟨ah, d7, H⟩ := Option.bind_eq_some_iff.mp H
   by_cases c7 : (((((ab ++ ac : List Int) ++ [0, IntKind.u8.wrap aa] : List Int) ++ af : List Int) ++ [IntKind.u8.wrap ad] : List Int).length + ah.length) * 1 ≤ 140737488355328
   rotate_left
   ·rw [if_neg c7] at H
    exact absurd H (by simp)
   rw [if_pos c7] at H
   obtain ⟨an, d8, H⟩ := Option.bind_eq_some_iff.mp H
   by_cases c8 : ((((((ab ++ ac : List Int) ++ [0, IntKind.u8.wrap aa] : List Int) ++ af : List Int) ++ [IntKind.u8.wrap ad] : List Int) ++ ah : List Int).length + an.length) * 1 ≤ 140737488355328
   rotate_left
   ·rw [if_neg c8] at H
    exact absurd H (by simp)
   rw [if_pos c8] at H
   by_cases c9 : (((((((ab ++ ac : List Int) ++ [0, IntKind.u8.wrap aa] : List Int) ++ af : List Int) ++ [IntKind.u8.wrap ad] : List Int) ++ ah : List Int) ++ an : List Int).length + [IntKind.u8.wrap ai].length) * 1 ≤ 140737488355328
   rotate_left
   ·rw [if_neg c9] at H
    exact absurd H (by simp)
   rw [if_pos c9] at H
   refine wp_cond_true ((hS.get 0 rfl).trans (bT (decide_eq_true c2))) ?_
   refine wp_seq_k (fun fx ck => ?_)
   refine reg_seq_tail 4 (I := I3_ w aI az) (ps := [IsV (.slice aw ab.length av), VP ae 11, VI aV, IsR (Kd.int .u8) 5 az.heap.size ac]) (by kernel_rfl) ?_ ?_ rfl hS ⟨bI.1, bI.2.1, (bR az)⟩ ?_ ?_
   ·exact bs3
   ·exact .v (.v (.v (.cons (Stays.r _ _ _ _) (.nil))))
   ·refine .ms 3 rfl rfl rfl ?_
    refine .on rfl (fun a w hS hI hp => does_val (x_fieldE (b := 0) rfl (hS.get 2 rfl) Try.underlying28 rfl rfl (by kernel_rfl)) rfl) ?_
    refine .on rfl (fun a w hS hI hp => does_val (x_load1 (d := .int .i64) rfl (hp.V 1 rfl rfl) (by kernel_rfl) rfl ((blk_cell (((hI.2.1).block ae (blk_lt ag)).trans ag) 11).trans rfl)) rfl) ?_
    refine .on rfl (fun a w hS hI hp => does_call (by kernel_rfl) (ar2 (hp.V 2 rfl rfl) (rfl)) ((carillonref01_Put.calls k aV 2 ac _  d5).mono fun _ _ h => h.elim fun v0 h => ⟨v0, h.1, h.2.2, Kd.R_lower h.2.1 hI.2.2.size⟩)) ?_
    exact .nil
   clear hS
   intro ec cj hS cn hp
   replace hS := ((hS.nil).cons (hS.get 3 rfl)).cons (hS.get 2 rfl)
   have eT : sl _ 28 = .slice aw ab.length av := hp 0 (by decide)
   obtain ⟨fd, fm, dH, gI, eq⟩ := Kd.R_reads (show Kd.R (Kd.int .u8) 5 cj az.heap.size (fun _ => True) (sl _ 31) ac from hp 3 (by decide))
   have g0 : Kd.R (Kd.int .u8) 5 cj az.heap.size (fun _ => True) (.slice fd ac.length fm) ac := dH ▸ (hp 3 (by decide))
   have hS := hS.cons eT
   have hS := hS.cons dH
   clear hp eT dH
   show wpList _ _ _ [_, _] _ _
   refine list_step rfl (does_more (W := w) (.tmp 28) (.tmp 31) 36 5 1 rfl (by kernel_rfl) (by kernel_rfl) (by decide) _ ab ac _ _ (hS.get 1 rfl) (hS.get 0 rfl) (Kd.R_below bG cn.2.1) (Kd.C_below eq (bR cj)) cn.1 c3) ?_
   rintro hf dS ⟨hb, hr, hk⟩
   have bz := hk ae _ _ ((cn.2.1.block ae (blk_lt ag)).trans ag) (by decide)
   clear hk
   have dg := hb
   replace hS := (hS.nil).cons (hS.get 2 rfl)
   obtain ⟨a9, bg, rfl, gK, gz⟩ := Kd.R_reads hr
   have eF := hr
   clear hr
   refine hS.next (v := .slice a9 ((ab ++ ac : List Int).length) bg) (d := 32) rfl (by decide) (by rfl) ?_
   clear hS
   intro f6 hS
   refine list_step rfl (R := fun v w' => Below _ _ w' ∧ (IsV (.slice a9 ((ab ++ ac : List Int).length) bg)) v w') (does_val (x_assign rfl (hS.get 0 rfl)) rfl) ?_
   rintro e4 bn ⟨hb, he⟩
   have di := below_step dg hb
   have bW := below_step (bR dS) hb
   obtain rfl : e4 = .slice a9 ((ab ++ ac : List Int).length) bg := he
   refine hS.next (v := .slice a9 ((ab ++ ac : List Int).length) bg) (d := 3) rfl (by decide) (by rfl) ?_
   clear hS
   intro f8 hS
   refine wpList_nil ?_
   refine ck _ _ ?_
   refine wp_seq_k (fun hw ej => ?_)
   refine reg_seq_tail 5 (I := I3_ w dS bn) (ps := [IsV (.slice a9 ((ab ++ ac : List Int).length) bg), VP ae 12, VI aa, IsV (.int .u8 (IntKind.u8.wrap aa)), IsR (Kd.int .u8) 5 bn.heap.size [0, IntKind.u8.wrap aa]]) (by kernel_rfl) ?_ ?_ rfl hS ⟨di, bW, (bR bn)⟩ ?_ ?_
   ·exact bs3
   ·exact .v (.v (.v (.v (.cons (Stays.r _ _ _ _) (.nil)))))
   ·refine .ms 0 rfl rfl rfl ?_
    refine .on rfl (fun a w hS hI hp => does_val (x_fieldE (b := 0) rfl (hS.get 2 rfl) Try.underlying28 rfl rfl (by kernel_rfl)) rfl) ?_
    refine .on rfl (fun a w hS hI hp => does_val (x_load1 (d := .int .i64) rfl (hp.V 1 rfl rfl) (by kernel_rfl) rfl ((blk_cell (((hI.2.1).block ae (blk_lt bz)).trans bz) 12).trans rfl)) rfl) ?_
    refine .on rfl (fun a w hS hI hp => does_val (x_convI rfl (by kernel_rfl) (by kernel_rfl) (hp.V 2 rfl rfl)) rfl) ?_
    refine .on rfl (fun a w hS hI hp => does_lit bn.heap.size 36 5 2 _ [(0, .int .u8 0), (1, .int .u8 (IntKind.u8.wrap aa))] [0, IntKind.u8.wrap aa] rfl (by kernel_rfl) (by rw [Array.toList_map]; exact (show [(0, a.eval (.const (.int .u8 0))), (1, a.eval (.tmp 36))] = _ from (li_cons (rfl) (li_cons (hp.V 3 rfl rfl) rfl)))) (by kernel_rfl) rfl (hI.2.2).size (Nat.le_of_ble_eq_true rfl)) ?_
    exact .nil
   clear hS
   intro ga cT hS cp hp
   replace hS := ((hS.nil).cons (hS.get 2 rfl)).cons (hS.get 0 rfl)
   have eU : sl _ 33 = .slice a9 ((ab ++ ac : List Int).length) bg := hp 0 (by decide)
   obtain ⟨ff, fp, dI, gL, es⟩ := Kd.R_reads (show Kd.R (Kd.int .u8) 5 cT bn.heap.size (fun _ => True) (sl _ 37) [0, IntKind.u8.wrap aa] from hp 4 (by decide))
   have g2 : Kd.R (Kd.int .u8) 5 cT bn.heap.size (fun _ => True) (.slice ff [0, IntKind.u8.wrap aa].length fp) [0, IntKind.u8.wrap aa] := dI ▸ (hp 4 (by decide))
   have hS := hS.cons eU
   have hS := hS.cons dI
   clear hp eU dI
   show wpList _ _ _ [_, _] _ _
   refine list_step rfl (does_more (W := w) (.tmp 33) (.tmp 37) 36 5 1 rfl (by kernel_rfl) (by kernel_rfl) (by decide) _ (ab ++ ac : List Int) [0, IntKind.u8.wrap aa] _ _ (hS.get 1 rfl) (hS.get 0 rfl) (Kd.R_below eF cp.2.1) (Kd.C_below es (bR cT)) cp.1 c4) ?_
   rintro hh dT ⟨hb, hr, hk⟩
   have bA := hk ae _ _ ((cp.2.1.block ae (blk_lt bz)).trans bz) (by decide)
   clear hk
   have dk := hb
   replace hS := (hS.nil).cons (hS.get 3 rfl)
   obtain ⟨ba, bh, rfl, gM, gB⟩ := Kd.R_reads hr
   have eH := hr
   clear hr
   refine hS.next (v := .slice ba (((ab ++ ac : List Int) ++ [0, IntKind.u8.wrap aa] : List Int).length) bh) (d := 38) rfl (by decide) (by rfl) ?_
   clear hS
   intro gb hS
   refine list_step rfl (R := fun v w' => Below _ _ w' ∧ (IsV (.slice ba (((ab ++ ac : List Int) ++ [0, IntKind.u8.wrap aa] : List Int).length) bh)) v w') (does_val (x_assign rfl (hS.get 0 rfl)) rfl) ?_
   rintro e6 bL ⟨hb, he⟩
   have dl := below_step dk hb
   have bY := below_step (bR dT) hb
   obtain rfl : e6 = .slice ba (((ab ++ ac : List Int) ++ [0, IntKind.u8.wrap aa] : List Int).length) bh := he
   refine hS.next (v := .slice ba (((ab ++ ac : List Int) ++ [0, IntKind.u8.wrap aa] : List Int).length) bh) (d := 3) rfl (by decide) (by rfl) ?_
   clear hS
   intro gc hS
   refine wpList_nil ?_
   refine ej _ _ ?_
   refine wp_seq_k (fun hx ek => ?_)
   refine reg_seq_tail 4 (I := I3_ w dT bL) (ps := [IsV (.slice ba (((ab ++ ac : List Int) ++ [0, IntKind.u8.wrap aa] : List Int).length) bh), VP ae 13, IsV (.agg #[.int .i64 aA, .int .i64 aB, .int .i64 aC]), IsR (Kd.int .u8) 5 bL.heap.size af]) (by kernel_rfl) ?_ ?_ rfl hS ⟨dl, bY, (bR bL)⟩ ?_ ?_
   ·exact bs3
   ·exact .v (.v (.v (.cons (Stays.r _ _ _ _) (.nil))))
   ·refine .ms 0 rfl rfl rfl ?_
    refine .on rfl (fun a w hS hI hp => does_val (x_fieldE (b := 0) rfl (hS.get 2 rfl) Try.underlying28 rfl rfl (by kernel_rfl)) rfl) ?_
    refine .on rfl (fun a w hS hI hp => does_loadmid (cs := [.int .i64 aA, .int .i64 aB, .int .i64 aC]) rfl (hp.V 1 rfl rfl) (((hI.2.1).block ae (blk_lt bA)).trans bA) (by kernel_rfl) Try.underlying26 rfl (by kernel_rfl) rfl) ?_
    refine .on rfl (fun a w hS hI hp => does_call (by kernel_rfl) (ar1 (hp.V 2 rfl rfl)) ((carillonref05_Put.calls k aA aB aC af _  d6).mono fun _ _ h => h.elim fun v0 h => ⟨v0, h.1, h.2.2, Kd.R_lower h.2.1 hI.2.2.size⟩)) ?_
    exact .nil
   clear hS
   intro gd cU hS cq hp
   replace hS := ((hS.nil).cons (hS.get 2 rfl)).cons (hS.get 0 rfl)
   have eV : sl _ 39 = .slice ba (((ab ++ ac : List Int) ++ [0, IntKind.u8.wrap aa] : List Int).length) bh := hp 0 (by decide)
   obtain ⟨fg, fq, dJ, gN, et⟩ := Kd.R_reads (show Kd.R (Kd.int .u8) 5 cU bL.heap.size (fun _ => True) (sl _ 42) af from hp 3 (by decide))
   have g3 : Kd.R (Kd.int .u8) 5 cU bL.heap.size (fun _ => True) (.slice fg af.length fq) af := dJ ▸ (hp 3 (by decide))
   have hS := hS.cons eV
   have hS := hS.cons dJ
   clear hp eV dJ
   show wpList _ _ _ [_, _] _ _
   refine list_step rfl (does_more (W := w) (.tmp 39) (.tmp 42) 36 5 1 rfl (by kernel_rfl) (by kernel_rfl) (by decide) _ ((ab ++ ac : List Int) ++ [0, IntKind.u8.wrap aa] : List Int) af _ _ (hS.get 1 rfl) (hS.get 0 rfl) (Kd.R_below eH cq.2.1) (Kd.C_below et (bR cU)) cq.1 c5) ?_
   rintro hi dU ⟨hb, hr, hk⟩
   have bB := hk ae _ _ ((cq.2.1.block ae (blk_lt bA)).trans bA) (by decide)
   clear hk
   have dm := hb
   replace hS := (hS.nil).cons (hS.get 3 rfl)
   obtain ⟨bb, bi, rfl, gO, gC⟩ := Kd.R_reads hr
   have eI := hr
   clear hr
   refine hS.next (v := .slice bb ((((ab ++ ac : List Int) ++ [0, IntKind.u8.wrap aa] : List Int) ++ af : List Int).length) bi) (d := 43) rfl (by decide) (by rfl) ?_
   clear hS
   intro ge hS
   refine list_step rfl (R := fun v w' => Below _ _ w' ∧ (IsV (.slice bb ((((ab ++ ac : List Int) ++ [0, IntKind.u8.wrap aa] : List Int) ++ af : List Int).length) bi)) v w') (does_val (x_assign rfl (hS.get 0 rfl)) rfl) ?_
   rintro e7 bo ⟨hb, he⟩
   have dn := below_step dm hb
   have bZ := below_step (bR dU) hb
   obtain rfl : e7 = .slice bb ((((ab ++ ac : List Int) ++ [0, IntKind.u8.wrap aa] : List Int) ++ af : List Int).length) bi := he
   refine hS.next (v := .slice bb ((((ab ++ ac : List Int) ++ [0, IntKind.u8.wrap aa] : List Int) ++ af : List Int).length) bi) (d := 3) rfl (by decide) (by rfl) ?_
   clear hS
   intro gf hS
   refine wpList_nil ?_
   refine ek _ _ ?_
   refine wp_seq_k (fun hy el => ?_)
   refine reg_seq_tail 5 (I := I3_ w dU bo) (ps := [IsV (.slice bb ((((ab ++ ac : List Int) ++ [0, IntKind.u8.wrap aa] : List Int) ++ af : List Int).length) bi), VP ae 16, VI ad, IsV (.int .u8 (IntKind.u8.wrap ad)), IsR (Kd.int .u8) 5 bo.heap.size [IntKind.u8.wrap ad]]) (by kernel_rfl) ?_ ?_ rfl hS ⟨dn, bZ, (bR bo)⟩ ?_ ?_
   ·exact bs3
   ·exact .v (.v (.v (.v (.cons (Stays.r _ _ _ _) (.nil)))))
   ·refine .ms 0 rfl rfl rfl ?_
    refine .on rfl (fun a w hS hI hp => does_val (x_fieldE (b := 0) rfl (hS.get 2 rfl) Try.underlying28 rfl rfl (by kernel_rfl)) rfl) ?_
    refine .on rfl (fun a w hS hI hp => does_val (x_load1 (d := .int .i64) rfl (hp.V 1 rfl rfl) (by kernel_rfl) rfl ((blk_cell (((hI.2.1).block ae (blk_lt bB)).trans bB) 16).trans rfl)) rfl) ?_
    refine .on rfl (fun a w hS hI hp => does_val (x_convI rfl (by kernel_rfl) (by kernel_rfl) (hp.V 2 rfl rfl)) rfl) ?_
    refine .on rfl (fun a w hS hI hp => does_lit bo.heap.size 36 5 1 _ [(0, .int .u8 (IntKind.u8.wrap ad))] [IntKind.u8.wrap ad] rfl (by kernel_rfl) (by rw [Array.toList_map]; exact (show [(0, a.eval (.tmp 47))] = _ from (li_cons (hp.V 3 rfl rfl) rfl))) (by kernel_rfl) rfl (hI.2.2).size (Nat.le_of_ble_eq_true rfl)) ?_
    exact .nil
   clear hS
   intro gg cV hS cr hp
   replace hS := ((hS.nil).cons (hS.get 2 rfl)).cons (hS.get 0 rfl)
   have eW : sl _ 44 = .slice bb ((((ab ++ ac : List Int) ++ [0, IntKind.u8.wrap aa] : List Int) ++ af : List Int).length) bi := hp 0 (by decide)
   obtain ⟨fh, fr, dK, gP, eu⟩ := Kd.R_reads (show Kd.R (Kd.int .u8) 5 cV bo.heap.size (fun _ => True) (sl _ 48) [IntKind.u8.wrap ad] from hp 4 (by decide))
   have g5 : Kd.R (Kd.int .u8) 5 cV bo.heap.size (fun _ => True) (.slice fh [IntKind.u8.wrap ad].length fr) [IntKind.u8.wrap ad] := dK ▸ (hp 4 (by decide))
   have hS := hS.cons eW
   have hS := hS.cons dK
   clear hp eW dK
   show wpList _ _ _ [_, _] _ _
   refine list_step rfl (does_more (W := w) (.tmp 44) (.tmp 48) 36 5 1 rfl (by kernel_rfl) (by kernel_rfl) (by decide) _ (((ab ++ ac : List Int) ++ [0, IntKind.u8.wrap aa] : List Int) ++ af : List Int) [IntKind.u8.wrap ad] _ _ (hS.get 1 rfl) (hS.get 0 rfl) (Kd.R_below eI cr.2.1) (Kd.C_below eu (bR cV)) cr.1 c6) ?_
   rintro hj dV ⟨hb, hr, hk⟩
   have bC := hk ae _ _ ((cr.2.1.block ae (blk_lt bB)).trans bB) (by decide)
   clear hk
   have dp := hb
   replace hS := (hS.nil).cons (hS.get 3 rfl)
   obtain ⟨bc, bj, rfl, gQ, gD⟩ := Kd.R_reads hr
   have eJ := hr
   clear hr
   refine hS.next (v := .slice bc (((((ab ++ ac : List Int) ++ [0, IntKind.u8.wrap aa] : List Int) ++ af : List Int) ++ [IntKind.u8.wrap ad] : List Int).length) bj) (d := 49) rfl (by decide) (by rfl) ?_
   clear hS
   intro gh hS
   refine list_step rfl (R := fun v w' => Below _ _ w' ∧ (IsV (.slice bc (((((ab ++ ac : List Int) ++ [0, IntKind.u8.wrap aa] : List Int) ++ af : List Int) ++ [IntKind.u8.wrap ad] : List Int).length) bj)) v w') (does_val (x_assign rfl (hS.get 0 rfl)) rfl) ?_
   rintro e8 bM ⟨hb, he⟩
   have dq := below_step dp hb
   have b0 := below_step (bR dV) hb
   obtain rfl : e8 = .slice bc (((((ab ++ ac : List Int) ++ [0, IntKind.u8.wrap aa] : List Int) ++ af : List Int) ++ [IntKind.u8.wrap ad] : List Int).length) bj := he
   refine hS.next (v := .slice bc (((((ab ++ ac : List Int) ++ [0, IntKind.u8.wrap aa] : List Int) ++ af : List Int) ++ [IntKind.u8.wrap ad] : List Int).length) bj) (d := 3) rfl (by decide) (by rfl) ?_
   clear hS
   intro gi hS
   refine wpList_nil ?_
   refine el _ _ ?_
   refine wp_seq_k (fun hz em => ?_)
   refine reg_seq_tail 4 (I := I3_ w dV bM) (ps := [IsV (.slice bc (((((ab ++ ac : List Int) ++ [0, IntKind.u8.wrap aa] : List Int) ++ af : List Int) ++ [IntKind.u8.wrap ad] : List Int).length) bj), VP ae 17, IsV (.int .u64 aW), IsR (Kd.int .u8) 5 bM.heap.size ah]) (by kernel_rfl) ?_ ?_ rfl hS ⟨dq, b0, (bR bM)⟩ ?_ ?_
   ·exact bs3
   ·exact .v (.v (.v (.cons (Stays.r _ _ _ _) (.nil))))
   ·refine .ms 0 rfl rfl rfl ?_
    refine .on rfl (fun a w hS hI hp => does_val (x_fieldE (b := 0) rfl (hS.get 2 rfl) Try.underlying28 rfl rfl (by kernel_rfl)) rfl) ?_
    refine .on rfl (fun a w hS hI hp => does_val (x_load1 (d := .int .u64) rfl (hp.V 1 rfl rfl) (by kernel_rfl) rfl ((blk_cell (((hI.2.1).block ae (blk_lt bC)).trans bC) 17).trans rfl)) rfl) ?_
    refine .on rfl (fun a w hS hI hp => does_call (by kernel_rfl) (ar1 (hp.V 2 rfl rfl)) ((carillonref01_PutId.calls k aW ah _  d7).mono fun _ _ h => h.elim fun v0 h => ⟨v0, h.1, h.2.2, Kd.R_lower h.2.1 hI.2.2.size⟩)) ?_
    exact .nil
   clear hS
   intro gj cW hS ct hp
   replace hS := ((hS.nil).cons (hS.get 2 rfl)).cons (hS.get 0 rfl)
   have eX : sl _ 50 = .slice bc (((((ab ++ ac : List Int) ++ [0, IntKind.u8.wrap aa] : List Int) ++ af : List Int) ++ [IntKind.u8.wrap ad] : List Int).length) bj := hp 0 (by decide)
   obtain ⟨fi, fs, dL, gR, ev⟩ := Kd.R_reads (show Kd.R (Kd.int .u8) 5 cW bM.heap.size (fun _ => True) (sl _ 53) ah from hp 3 (by decide))
   have g6 : Kd.R (Kd.int .u8) 5 cW bM.heap.size (fun _ => True) (.slice fi ah.length fs) ah := dL ▸ (hp 3 (by decide))
   have hS := hS.cons eX
   have hS := hS.cons dL
   clear hp eX dL
   show wpList _ _ _ [_, _] _ _
   refine list_step rfl (does_more (W := w) (.tmp 50) (.tmp 53) 36 5 1 rfl (by kernel_rfl) (by kernel_rfl) (by decide) _ ((((ab ++ ac : List Int) ++ [0, IntKind.u8.wrap aa] : List Int) ++ af : List Int) ++ [IntKind.u8.wrap ad] : List Int) ah _ _ (hS.get 1 rfl) (hS.get 0 rfl) (Kd.R_below eJ ct.2.1) (Kd.C_below ev (bR cW)) ct.1 c7) ?_
   rintro hl dW ⟨hb, hr, hk⟩
   have bD := hk ae _ _ ((ct.2.1.block ae (blk_lt bC)).trans bC) (by decide)
   clear hk
   have dr := hb
   replace hS := (hS.nil).cons (hS.get 3 rfl)
   obtain ⟨bd, bk, rfl, gS, gE⟩ := Kd.R_reads hr
   have eK := hr
   clear hr
   refine hS.next (v := .slice bd ((((((ab ++ ac : List Int) ++ [0, IntKind.u8.wrap aa] : List Int) ++ af : List Int) ++ [IntKind.u8.wrap ad] : List Int) ++ ah : List Int).length) bk) (d := 54) rfl (by decide) (by rfl) ?_
   clear hS
   intro gk hS
   refine list_step rfl (R := fun v w' => Below _ _ w' ∧ (IsV (.slice bd ((((((ab ++ ac : List Int) ++ [0, IntKind.u8.wrap aa] : List Int) ++ af : List Int) ++ [IntKind.u8.wrap ad] : List Int) ++ ah : List Int).length) bk)) v w') (does_val (x_assign rfl (hS.get 0 rfl)) rfl) ?_
   rintro e9 bN ⟨hb, he⟩
   have ds := below_step dr hb
   have b1 := below_step (bR dW) hb
   obtain rfl : e9 = .slice bd ((((((ab ++ ac : List Int) ++ [0, IntKind.u8.wrap aa] : List Int) ++ af : List Int) ++ [IntKind.u8.wrap ad] : List Int) ++ ah : List Int).length) bk := he
   refine hS.next (v := .slice bd ((((((ab ++ ac : List Int) ++ [0, IntKind.u8.wrap aa] : List Int) ++ af : List Int) ++ [IntKind.u8.wrap ad] : List Int) ++ ah : List Int).length) bk) (d := 3) rfl (by decide) (by rfl) ?_
   clear hS
   intro gl hS
   refine wpList_nil ?_
   refine em _ _ ?_
   refine wp_seq_k (fun hA en => ?_)
   refine reg_seq_tail 4 (I := I3_ w dW bN) (ps := [IsV (.slice bd ((((((ab ++ ac : List Int) ++ [0, IntKind.u8.wrap aa] : List Int) ++ af : List Int) ++ [IntKind.u8.wrap ad] : List Int) ++ ah : List Int).length) bk), VP ae 18, VI aX, IsR (Kd.int .u8) 5 bN.heap.size an]) (by kernel_rfl) ?_ ?_ rfl hS ⟨ds, b1, (bR bN)⟩ ?_ ?_
   ·exact bs3
   ·exact .v (.v (.v (.cons (Stays.r _ _ _ _) (.nil))))
   ·refine .ms 0 rfl rfl rfl ?_
    refine .on rfl (fun a w hS hI hp => does_val (x_fieldE (b := 0) rfl (hS.get 2 rfl) Try.underlying28 rfl rfl (by kernel_rfl)) rfl) ?_
    refine .on rfl (fun a w hS hI hp => does_val (x_load1 (d := .int .i64) rfl (hp.V 1 rfl rfl) (by kernel_rfl) rfl ((blk_cell (((hI.2.1).block ae (blk_lt bD)).trans bD) 18).trans rfl)) rfl) ?_
    refine .on rfl (fun a w hS hI hp => does_call (by kernel_rfl) (ar2 (hp.V 2 rfl rfl) (rfl)) ((carillonref01_Put.calls k aX 2 an _  d8).mono fun _ _ h => h.elim fun v0 h => ⟨v0, h.1, h.2.2, Kd.R_lower h.2.1 hI.2.2.size⟩)) ?_
    exact .nil
   clear hS
   intro gm cX hS cu hp
   replace hS := ((hS.nil).cons (hS.get 2 rfl)).cons (hS.get 0 rfl)
   have eY : sl _ 55 = .slice bd ((((((ab ++ ac : List Int) ++ [0, IntKind.u8.wrap aa] : List Int) ++ af : List Int) ++ [IntKind.u8.wrap ad] : List Int) ++ ah : List Int).length) bk := hp 0 (by decide)
   obtain ⟨fj, ft, dM, gT, ew⟩ := Kd.R_reads (show Kd.R (Kd.int .u8) 5 cX bN.heap.size (fun _ => True) (sl _ 58) an from hp 3 (by decide))
   have g7 : Kd.R (Kd.int .u8) 5 cX bN.heap.size (fun _ => True) (.slice fj an.length ft) an := dM ▸ (hp 3 (by decide))
   have hS := hS.cons eY
   have hS := hS.cons dM
   clear hp eY dM
   show wpList _ _ _ [_, _] _ _
   refine list_step rfl (does_more (W := w) (.tmp 55) (.tmp 58) 36 5 1 rfl (by kernel_rfl) (by kernel_rfl) (by decide) _ (((((ab ++ ac : List Int) ++ [0, IntKind.u8.wrap aa] : List Int) ++ af : List Int) ++ [IntKind.u8.wrap ad] : List Int) ++ ah : List Int) an _ _ (hS.get 1 rfl) (hS.get 0 rfl) (Kd.R_below eK cu.2.1) (Kd.C_below ew (bR cX)) cu.1 c8) ?_
   rintro hm dX ⟨hb, hr, hk⟩
   have bE := hk ae _ _ ((cu.2.1.block ae (blk_lt bD)).trans bD) (by decide)
   clear hk
   have dt := hb
   replace hS := (hS.nil).cons (hS.get 3 rfl)
   obtain ⟨be, bl, rfl, gU, gF⟩ := Kd.R_reads hr
   have eL := hr
   clear hr
   refine hS.next (v := .slice be (((((((ab ++ ac : List Int) ++ [0, IntKind.u8.wrap aa] : List Int) ++ af : List Int) ++ [IntKind.u8.wrap ad] : List Int) ++ ah : List Int) ++ an : List Int).length) bl) (d := 59) rfl (by decide) (by rfl) ?_
   clear hS
   intro gn hS
   refine list_step rfl (R := fun v w' => Below _ _ w' ∧ (IsV (.slice be (((((((ab ++ ac : List Int) ++ [0, IntKind.u8.wrap aa] : List Int) ++ af : List Int) ++ [IntKind.u8.wrap ad] : List Int) ++ ah : List Int) ++ an : List Int).length) bl)) v w') (does_val (x_assign rfl (hS.get 0 rfl)) rfl) ?_
   rintro fa bp ⟨hb, he⟩
   have du := below_step dt hb
   have b2 := below_step (bR dX) hb
   obtain rfl : fa = .slice be (((((((ab ++ ac : List Int) ++ [0, IntKind.u8.wrap aa] : List Int) ++ af : List Int) ++ [IntKind.u8.wrap ad] : List Int) ++ ah : List Int) ++ an : List Int).length) bl := he
   refine hS.next (v := .slice be (((((((ab ++ ac : List Int) ++ [0, IntKind.u8.wrap aa] : List Int) ++ af : List Int) ++ [IntKind.u8.wrap ad] : List Int) ++ ah : List Int) ++ an : List Int).length) bl) (d := 3) rfl (by decide) (by rfl) ?_
   clear hS
   intro go hS
   refine wpList_nil ?_
   refine en _ _ ?_
   refine reg_seq_tail 5 (I := I3_ w dX bp) (ps := [IsV (.slice be (((((((ab ++ ac : List Int) ++ [0, IntKind.u8.wrap aa] : List Int) ++ af : List Int) ++ [IntKind.u8.wrap ad] : List Int) ++ ah : List Int) ++ an : List Int).length) bl), VP ae 19, VI ai, IsV (.int .u8 (IntKind.u8.wrap ai)), IsR (Kd.int .u8) 5 bp.heap.size [IntKind.u8.wrap ai]]) (by kernel_rfl) ?_ ?_ rfl hS ⟨du, b2, (bR bp)⟩ ?_ ?_
   ·exact bs3
   ·exact .v (.v (.v (.v (.cons (Stays.r _ _ _ _) (.nil)))))
   ·refine .ms 0 rfl rfl rfl ?_
    refine .on rfl (fun a w hS hI hp => does_val (x_fieldE (b := 0) rfl (hS.get 2 rfl) Try.underlying28 rfl rfl (by kernel_rfl)) rfl) ?_
    refine .on rfl (fun a w hS hI hp => does_val (x_load1 (d := .int .i64) rfl (hp.V 1 rfl rfl) (by kernel_rfl) rfl ((blk_cell (((hI.2.1).block ae (blk_lt bE)).trans bE) 19).trans rfl)) rfl) ?_
    refine .on rfl (fun a w hS hI hp => does_val (x_convI rfl (by kernel_rfl) (by kernel_rfl) (hp.V 2 rfl rfl)) rfl) ?_
    refine .on rfl (fun a w hS hI hp => does_lit bp.heap.size 36 5 1 _ [(0, .int .u8 (IntKind.u8.wrap ai))] [IntKind.u8.wrap ai] rfl (by kernel_rfl) (by rw [Array.toList_map]; exact (show [(0, a.eval (.tmp 63))] = _ from (li_cons (hp.V 3 rfl rfl) rfl))) (by kernel_rfl) rfl (hI.2.2).size (Nat.le_of_ble_eq_true rfl)) ?_
    exact .nil
   clear hS
   intro gp cY hS cv hp
   replace hS := (hS.nil).cons (hS.get 0 rfl)
   have eZ : sl _ 60 = .slice be (((((((ab ++ ac : List Int) ++ [0, IntKind.u8.wrap aa] : List Int) ++ af : List Int) ++ [IntKind.u8.wrap ad] : List Int) ++ ah : List Int) ++ an : List Int).length) bl := hp 0 (by decide)
   obtain ⟨fk, fu, dN, gV, ex⟩ := Kd.R_reads (show Kd.R (Kd.int .u8) 5 cY bp.heap.size (fun _ => True) (sl _ 64) [IntKind.u8.wrap ai] from hp 4 (by decide))
   have g8 : Kd.R (Kd.int .u8) 5 cY bp.heap.size (fun _ => True) (.slice fk [IntKind.u8.wrap ai].length fu) [IntKind.u8.wrap ai] := dN ▸ (hp 4 (by decide))
   have hS := hS.cons eZ
   have hS := hS.cons dN
   clear hp eZ dN
   show wpList _ _ _ [_, _] _ _
   refine list_step rfl (does_more (W := w) (.tmp 60) (.tmp 64) 36 5 1 rfl (by kernel_rfl) (by kernel_rfl) (by decide) _ ((((((ab ++ ac : List Int) ++ [0, IntKind.u8.wrap aa] : List Int) ++ af : List Int) ++ [IntKind.u8.wrap ad] : List Int) ++ ah : List Int) ++ an : List Int) [IntKind.u8.wrap ai] _ _ (hS.get 1 rfl) (hS.get 0 rfl) (Kd.R_below eL cv.2.1) (Kd.C_below ex (bR cY)) cv.1 c9) ?_
   rintro hn fC ⟨hb, hr, hk⟩
   have gY := hk ae _ _ ((cv.2.1.block ae (blk_lt bE)).trans bE) (by decide)
   clear hk
   have dv := hb
   replace hS := hS.nil
   obtain ⟨bt, bx, rfl, eB, gG⟩ := Kd.R_reads hr
   have eM := hr
   clear hr
   refine hS.next (v := .slice bt ((((((((ab ++ ac : List Int) ++ [0, IntKind.u8.wrap aa] : List Int) ++ af : List Int) ++ [IntKind.u8.wrap ad] : List Int) ++ ah : List Int) ++ an : List Int) ++ [IntKind.u8.wrap ai] : List Int).length) bx) (d := 65) rfl (by decide) (by rfl) ?_
   clear hS
   intro gq hS
   refine list_step rfl (R := fun v w' => Below _ _ w' ∧ (IsV (.slice bt ((((((((ab ++ ac : List Int) ++ [0, IntKind.u8.wrap aa] : List Int) ++ af : List Int) ++ [IntKind.u8.wrap ad] : List Int) ++ ah : List Int) ++ an : List Int) ++ [IntKind.u8.wrap ai] : List Int).length) bx)) v w') (does_val (x_assign rfl (hS.get 0 rfl)) rfl) ?_
   rintro fb hG ⟨hb, he⟩
   have dw := below_step dv hb
   have b3 := below_step (bR fC) hb
   obtain rfl : fb = .slice bt ((((((((ab ++ ac : List Int) ++ [0, IntKind.u8.wrap aa] : List Int) ++ af : List Int) ++ [IntKind.u8.wrap ad] : List Int) ++ ah : List Int) ++ an : List Int) ++ [IntKind.u8.wrap ai] : List Int).length) bx := he
   refine hS.next (v := .slice bt ((((((((ab ++ ac : List Int) ++ [0, IntKind.u8.wrap aa] : List Int) ++ af : List Int) ++ [IntKind.u8.wrap ad] : List Int) ++ ah : List Int) ++ an : List Int) ++ [IntKind.u8.wrap ai] : List Int).length) bx) (d := 3) rfl (by decide) (by rfl) ?_
   clear hS
   intro gr hS
   refine wpList_nil ?_
   replace hS := (hS.nil).cons (hS.get 0 rfl)
   (try simp only [Exit.then, Exit.inBlock])
   exact J3 _ _ (((((((ab ++ ac : List Int) ++ [0, IntKind.u8.wrap aa] : List Int) ++ af : List Int) ++ [IntKind.u8.wrap ad] : List Int) ++ ah : List Int) ++ an : List Int) ++ [IntKind.u8.wrap ai] : List Int) bt bx H hS dw eB (Kd.R_lower (Kd.R_below eM b3) (Nat.le_refl _))
  obtain ⟨ch, d3, H⟩ := Option.bind_eq_some_iff.mp H
  refine wp_seq_k (fun hq ee => ?_)
  refine reg_seq (I := I2_ w bU) (ps := [VP ap 0, VI aD, VB ch]) (by kernel_rfl) ?_ ?_ rfl hS ⟨d0, (bR bU)⟩ ?_ ?_
  ·exact bs2
  ·exact .v (.v (.v (.nil)))
  ·refine .on rfl (fun a w hS hI hp => does_val (x_fieldE (b := 0) rfl (hS.get 0 rfl) Try.underlying28 rfl rfl (by kernel_rfl)) rfl) ?_
   refine .on rfl (fun a w hS hI hp => does_val (x_load1 (d := .int .i64) rfl (hp.V 0 rfl rfl) (by kernel_rfl) rfl ((blk_cell (((hI.2).block ap (blk_lt ao)).trans ao) 0).trans rfl)) rfl) ?_
   refine .on rfl (fun a w hS hI hp => does_call (by kernel_rfl) (ar1 (hp.V 1 rfl rfl)) ((carillonref07_targeted.calls aD ch _  d3).mono fun _ _ h => ⟨_, h.1, h.2.below, rfl⟩)) ?_
   exact .nil
  clear hS
  intro fV bK hS a0 hp
  have eN : sl _ 14 = .bool ch := hp 2 (by decide)
  have hS := hS.cons eN
  clear hp eN
  refine ee _ _ ?_
  by_cases c1 : ch = true
  rotate_left
  ·rw [if_neg c1] at H
   refine wp_cond_false ((hS.get 0 rfl).trans (bF (Bool.eq_false_iff.2 c1))) ?_
   refine wp_skip ?_
   replace hS := ((hS.nil).cons (hS.get 2 rfl)).cons (hS.get 1 rfl)
   (try simp only [Exit.then, Exit.inBlock])
   exact J2 _ _ aD a1 a2 a3 a4 a5 a6 a7 a8 ax au aJ aK aL aM aN aO aP aQ aR aS aT aU ap aq bf aY H hS a0.1 bS ((a0.2.block ap (blk_lt ao)).trans ao) fy (Kd.R_lower (Kd.R_below dz a0.2) (Nat.le_refl _))
  rw [if_pos c1] at H
  obtain ⟨ar, d4, H⟩ := Option.bind_eq_some_iff.mp H
  by_cases c2 : (aq.length + ar.length) * 1 ≤ 140737488355328
  rotate_left
  ·rw [if_neg c2] at H
   exact absurd H (by simp)
  rw [if_pos c2] at H
  refine wp_cond_true ((hS.get 0 rfl).trans (bT c1)) ?_
  refine reg_seq_tail 4 (I := I3_ w bU bK) (ps := [IsV (.slice bf aq.length aY), VP ap 9, IsV (.agg #[.int .u64 ax, .int .i64 au]), IsR (Kd.int .u8) 5 bK.heap.size ar]) (by kernel_rfl) ?_ ?_ rfl hS ⟨a0.1, a0.2, (bR bK)⟩ ?_ ?_
  ·exact bs3
  ·exact .v (.v (.v (.cons (Stays.r _ _ _ _) (.nil))))
  ·refine .ms 2 rfl rfl rfl ?_
   refine .on rfl (fun a w hS hI hp => does_val (x_fieldE (b := 0) rfl (hS.get 1 rfl) Try.underlying28 rfl rfl (by kernel_rfl)) rfl) ?_
   refine .on rfl (fun a w hS hI hp => does_loadmid (cs := [.int .u64 ax, .int .i64 au]) rfl (hp.V 1 rfl rfl) (((hI.2.1).block ap (blk_lt ao)).trans ao) (by kernel_rfl) Try.underlying24 rfl (by kernel_rfl) rfl) ?_
   refine .on rfl (fun a w hS hI hp => does_call (by kernel_rfl) (ar1 (hp.V 2 rfl rfl)) ((carillonref04_Put.calls k ax au ar _  d4).mono fun _ _ h => h.elim fun v0 h => ⟨v0, h.1, h.2.2, Kd.R_lower h.2.1 hI.2.2.size⟩)) ?_
   exact .nil
  clear hS
  intro fW cR hS cl hp
  replace hS := ((hS.nil).cons (hS.get 2 rfl)).cons (hS.get 1 rfl)
  have eO : sl _ 15 = .slice bf aq.length aY := hp 0 (by decide)
  obtain ⟨fc, fl, dG, gH, ep⟩ := Kd.R_reads (show Kd.R (Kd.int .u8) 5 cR bK.heap.size (fun _ => True) (sl _ 18) ar from hp 3 (by decide))
  have gZ : Kd.R (Kd.int .u8) 5 cR bK.heap.size (fun _ => True) (.slice fc ar.length fl) ar := dG ▸ (hp 3 (by decide))
  have hS := hS.cons eO
  have hS := hS.cons dG
  clear hp eO dG
  show wpList _ _ _ [_, _] _ _
  refine list_step rfl (does_more (W := w) (.tmp 15) (.tmp 18) 36 5 1 rfl (by kernel_rfl) (by kernel_rfl) (by decide) _ aq ar _ _ (hS.get 1 rfl) (hS.get 0 rfl) (Kd.R_below dz cl.2.1) (Kd.C_below ep (bR cR)) cl.1 c2) ?_
  rintro ha fA ⟨hb, hr, hk⟩
  have dy := hk ap _ _ ((cl.2.1.block ap (blk_lt ao)).trans ao) (by decide)
  clear hk
  have da := hb
  replace hS := (hS.nil).cons (hS.get 2 rfl)
  obtain ⟨bq, bu, rfl, ey, gx⟩ := Kd.R_reads hr
  have eD := hr
  clear hr
  refine hS.next (v := .slice bq ((aq ++ ar : List Int).length) bu) (d := 19) rfl (by decide) (by rfl) ?_
  clear hS
  intro fX hS
  refine list_step rfl (R := fun v w' => Below _ _ w' ∧ (IsV (.slice bq ((aq ++ ar : List Int).length) bu)) v w') (does_val (x_assign rfl (hS.get 0 rfl)) rfl) ?_
  rintro e2 hD ⟨hb, he⟩
  have db := below_step da hb
  have aZ := below_step (bR fA) hb
  obtain rfl : e2 = .slice bq ((aq ++ ar : List Int).length) bu := he
  refine hS.next (v := .slice bq ((aq ++ ar : List Int).length) bu) (d := 3) rfl (by decide) (by rfl) ?_
  clear hS
  intro fY hS
  refine wpList_nil ?_
  replace hS := ((hS.nil).cons (hS.get 0 rfl)).cons (hS.get 2 rfl)
  (try simp only [Exit.then, Exit.inBlock])
  exact J2 _ _ aD a1 a2 a3 a4 a5 a6 a7 a8 ax au aJ aK aL aM aN aO aP aQ aR aS aT aU ap (aq ++ ar : List Int) bq bu H hS db bS ((aZ.block ap (blk_lt dy)).trans dy) ey (Kd.R_lower (Kd.R_below eD aZ) (Nat.le_refl _))
 obtain ⟨dQ, fM, H⟩ := Option.bind_eq_some_iff.mp H
 refine wp_seq_k (fun K9 gw => ?_)
 refine reg_seq (I := I3_ w w3 w7) (ps := [VP g4 0, VI bO, VB dQ]) (by kernel_rfl) ?_ ?_ rfl hS ⟨fL.1, fL.2, (bR w7)⟩ ?_ ?_
 ·exact bs3
 ·exact .v (.v (.v (.nil)))
 ·refine .on rfl (fun a w hS hI hp => does_val (x_fieldE (b := 0) rfl (hS.get 1 rfl) Try.underlying28 rfl rfl (by kernel_rfl)) rfl) ?_
  refine .on rfl (fun a w hS hI hp => does_val (x_load1 (d := .int .i64) rfl (hp.V 0 rfl rfl) (by kernel_rfl) rfl ((blk_cell (((hI.2.1).block g4 (blk_lt aG)).trans aG) 0).trans rfl)) rfl) ?_
  refine .on rfl (fun a w hS hI hp => does_call (by kernel_rfl) (ar1 (hp.V 1 rfl rfl)) ((carillonref07_stamped.calls bO dQ _  fM).mono fun _ _ h => ⟨_, h.1, h.2.below, rfl⟩)) ?_
  exact .nil
 clear hS
 intro hJ dC hS cP hp
 have fJ : sl _ 6 = .bool dQ := hp 2 (by decide)
 have hS := hS.cons fJ
 clear hp fJ
 refine gw _ _ ?_
 by_cases c1 : dQ = true
 rotate_left
 ·rw [if_neg c1] at H
  refine wp_cond_false ((hS.get 0 rfl).trans (bF (Bool.eq_false_iff.2 c1))) ?_
  refine wp_skip ?_
  replace hS := ((hS.nil).cons (hS.get 1 rfl)).cons (hS.get 2 rfl)
  (try simp only [Exit.then, Exit.inBlock])
  exact J1 _ _ bO cH cI cJ cK cL cM cN bP cO b4 b5 b6 b7 b8 b9 ca cb cc cd ce cf cg g4 [] none 0 H hS cP.1 dP ((cP.2.1.block g4 (blk_lt aG)).trans aG) (Nat.le_refl _) (Kd.R_nil _ _ _ _ _)
 rw [if_pos c1] at H
 obtain ⟨aH, fN, H⟩ := Option.bind_eq_some_iff.mp H
 by_cases c2 : aH.length * 1 ≤ 140737488355328
 rotate_left
 ·rw [if_neg c2] at H
  exact absurd H (by simp)
 rw [if_pos c2] at H
 refine wp_cond_true ((hS.get 0 rfl).trans (bT c1)) ?_
 refine reg_seq_tail 4 (I := I3_ w w3 dC) (ps := [IsV (.slice none 0 0), VP g4 8, VI bP, IsR (Kd.int .u8) 5 dC.heap.size aH]) (by kernel_rfl) ?_ ?_ rfl hS ⟨cP.1, cP.2.1, (bR dC)⟩ ?_ ?_
 ·exact bs3
 ·exact .v (.v (.v (.cons (Stays.r _ _ _ _) (.nil))))
 ·refine .ms 1 rfl rfl rfl ?_
  refine .on rfl (fun a w hS hI hp => does_val (x_fieldE (b := 0) rfl (hS.get 2 rfl) Try.underlying28 rfl rfl (by kernel_rfl)) rfl) ?_
  refine .on rfl (fun a w hS hI hp => does_val (x_load1 (d := .int .i64) rfl (hp.V 1 rfl rfl) (by kernel_rfl) rfl ((blk_cell (((hI.2.1).block g4 (blk_lt aG)).trans aG) 8).trans rfl)) rfl) ?_
  refine .on rfl (fun a w hS hI hp => does_call (by kernel_rfl) (ar1 (hp.V 2 rfl rfl)) ((carillonref02_Put.calls k bP aH _  fN).mono fun _ _ h => h.elim fun v0 h => ⟨v0, h.1, h.2.2, Kd.R_lower h.2.1 hI.2.2.size⟩)) ?_
  exact .nil
 clear hS
 intro hK cw hS cQ hp
 replace hS := ((hS.nil).cons (hS.get 2 rfl)).cons (hS.get 1 rfl)
 have fK : sl _ 7 = .slice none 0 0 := hp 0 (by decide)
 obtain ⟨fS, fT, dF, hO, fO⟩ := Kd.R_reads (show Kd.R (Kd.int .u8) 5 cw dC.heap.size (fun _ => True) (sl _ 10) aH from hp 3 (by decide))
 have hP : Kd.R (Kd.int .u8) 5 cw dC.heap.size (fun _ => True) (.slice fS aH.length fT) aH := dF ▸ (hp 3 (by decide))
 have hS := hS.cons fK
 have hS := hS.cons dF
 clear hp fK dF
 show wpList _ _ _ [_, _] _ _
 refine list_step rfl (R := fun v w' => Below _ _ w' ∧ (IsR (Kd.int .u8) 5 cw.heap.size aH) v w') (does_copy cw.heap.size (.tmp 7) (.tmp 10) 36 5 1 rfl (by kernel_rfl) (by kernel_rfl) (by decide) aH _ _ (hS.get 1 rfl) (hS.get 0 rfl) ((Kd.C_below fO (bR cw))) ((bR cw)).size c2) ?_
 rintro hQ ho ⟨hb, he⟩
 have dY := below_step cQ.1 hb
 have dD := below_step cQ.2.1 hb
 have dc := below_step cQ.2.2 hb
 have dd := below_step (bR cw) hb
 obtain ⟨cZ, c0, rfl, fP, hN⟩ := Kd.R_reads he
 have fQ := he
 refine hS.next (v := .slice cZ aH.length c0) (d := 11) rfl (by decide) (by rfl) ?_
 clear hS
 intro hL hS
 refine list_step rfl (R := fun v w' => Below _ _ w' ∧ (IsV (.slice cZ aH.length c0)) v w') (does_val (x_assign rfl (hS.get 0 rfl)) rfl) ?_
 rintro fR hU ⟨hb, he⟩
 have dZ := below_step dY hb
 have dE := below_step dD hb
 have fD := below_step dc hb
 have fE := below_step dd hb
 have dx := below_step (bR ho) hb
 obtain rfl : fR = .slice cZ aH.length c0 := he
 replace hS := ((((hS.nil).cons (hS.get 4 rfl)).cons (hS.get 2 rfl)).cons (hS.get 1 rfl)).cons (hS.get 0 rfl)
 refine hS.next (v := .slice cZ aH.length c0) (d := 3) rfl (by decide) (by rfl) ?_
 clear hS
 intro hM hS
 refine wpList_nil ?_
 replace hS := ((hS.nil).cons (hS.get 0 rfl)).cons (hS.get 4 rfl)
 (try simp only [Exit.then, Exit.inBlock])
 exact J1 _ _ bO cH cI cJ cK cL cM cN bP cO b4 b5 b6 b7 b8 b9 ca cb cc cd ce cf cg g4 aH cZ c0 H hS dZ dP ((dE.block g4 (blk_lt aG)).trans aG) fP (Kd.R_lower (Kd.R_below fQ dx) (cQ.1).size)
def carillonref09_Put.f (k : Nat) (a0_0 a0_1 a0_2 a0_3 a0_4 a0_5 a0_6 a0_7 a0_8 a0_9 a0_10 a0_11 a0_12 a0_13 a0_14 a0_15 a0_16 a0_17 a0_18 a0_19 a0_20 a0_21 a0_22 : Int) (l1 : List (S43)) : Option (ByteArray × Bool) := (carillonref08_Put.f k l1).bind fun t6 => (if t6.2 = true then ((carillonref07_Check.f k a0_0 a0_1 a0_2 a0_3 a0_4 a0_5 a0_6 a0_7 a0_8 a0_9 a0_10 a0_11 a0_12 a0_13 a0_14 a0_15 a0_16 a0_17 a0_18 a0_19 a0_20 a0_21 a0_22).bind fun t12 => (if t12 = true then ((carillonref07_Len.f k a0_0).bind fun t16 => (if (wrap64 ((wrap64 (34 + t16)) + (t6.1.length : Int))) > 400 then (some ((⟨#[]⟩ : ByteArray), false)) else ((carillonref06_Put.f k a0_0 a0_1 a0_2 a0_3 a0_4 a0_5 a0_6 a0_7 a0_8 a0_9 a0_10 a0_11 a0_12 a0_13 a0_14 a0_15 a0_16 a0_17 a0_18 a0_19 a0_20 a0_21 a0_22 (wrap64 ((wrap64 (34 + t16)) + (t6.1.length : Int)))).bind fun t24 => ((carillonref07_Put.f k a0_0 a0_1 a0_2 a0_3 a0_4 a0_5 a0_6 a0_7 a0_8 a0_9 a0_10 a0_11 a0_12 a0_13 a0_14 a0_15 a0_16 a0_17 a0_18 a0_19 a0_20 a0_21 a0_22).bind fun t29 => (if (strOfNums t24).size + (strOfNums t29).size ≤ 9223372036854775807 then (if ((strOfNums t24) ++ (strOfNums t29)).size + (strOfNums t6.1).size ≤ 9223372036854775807 then (some (((strOfNums t24) ++ (strOfNums t29)) ++ (strOfNums t6.1), true)) else (none)) else (none)))))) else (some ((⟨#[]⟩ : ByteArray), false)))) else (some ((⟨#[]⟩ : ByteArray), false)))
abbrev carillonref09_Put.v0 (x0 x1 x2 x3 x4 x5 x6 x7 x8 x9 x10 x11 x12 x13 x14 x15 x16 x17 x18 x19 x20 x21 x22 : Int) : Value := .agg #[.int .i64 x0, .int .i64 x1, .int .i64 x2, .int .i64 x3, .int .u64 x4, .int .i64 x5, .int .i64 x6, .int .i64 x7, .int .i64 x8, .int .u64 x9, .int .i64 x10, .int .i64 x11, .int .i64 x12, .int .i64 x13, .int .i64 x14, .int .i64 x15, .int .i64 x16, .int .u64 x17, .int .i64 x18, .int .i64 x19, .int .i64 x20, .int .i64 x21, .int .i64 x22]
abbrev carillonref09_Put.c1 (x0 x1 x2 x3 x4 x5 x6 x7 x8 x9 x10 x11 x12 x13 x14 x15 x16 x17 x18 x19 x20 x21 x22 : Int) : Array Value := #[.int .i64 x0, .int .i64 x1, .int .i64 x2, .int .i64 x3, .int .u64 x4, .int .i64 x5, .int .i64 x6, .int .i64 x7, .int .i64 x8, .int .u64 x9, .int .i64 x10, .int .i64 x11, .int .i64 x12, .int .i64 x13, .int .i64 x14, .int .i64 x15, .int .i64 x16, .int .u64 x17, .int .i64 x18, .int .i64 x19, .int .i64 x20, .int .i64 x21, .int .i64 x22]
open Go.Proofs.Ytiomlbkakiienaa.E in
set_option maxHeartbeats 60000000 in
set_option maxRecDepth 100000 in
theorem carillonref09_Put.calls (k : Nat) (ah aB aC aD aE aF aG aH aI aJ ai aj ak al am an ao ap aq ar au av aw : Int) (A1 : Option Addr) (a0 : Nat) (l1 : List (S43)) (r1 : ByteArray) (r2 : Bool) (w : World) (HR1 : Kd.C k43 w A1 l1.length l1) (HC1 : l1.length ≤ a0) (h : carillonref09_Put.f k ah aB aC aD aE aF aG aH aI aJ ai aj ak al am an ao ap aq ar au av aw l1 = some (r1, r2)) :
    Calls Try.prog 13 #[.agg #[.int .i64 ah, .int .i64 aB, .int .i64 aC, .int .i64 aD, .int .u64 aE, .int .i64 aF, .int .i64 aG, .int .i64 aH, .int .i64 aI, .int .u64 aJ, .int .i64 ai, .int .i64 aj, .int .i64 ak, .int .i64 al, .int .i64 am, .int .i64 an, .int .i64 ao, .int .u64 ap, .int .i64 aq, .int .i64 ar, .int .i64 au, .int .i64 av, .int .i64 aw], .slice A1 l1.length a0] w fun e w' => e = .returned (.tuple #[.string r1, .bool r2]) ∧ Below w.heap.size w w' := by
 have H := h
 clear h
 unfold carillonref09_Put.f at H
 obtain ⟨t6, bk, H⟩ := Option.bind_eq_some_iff.mp H
 obtain ⟨aa, ab⟩ := t6
 (try dsimp only at H)
 refine calls_of_wp (fn := Try.f13) (by kernel_rfl) rfl ?_
 have hS := St.enter #[(carillonref09_Put.v0 ah aB aC aD aE aF aG aH aI aJ ai aj ak al am an ao ap aq ar au av aw), .slice A1 l1.length a0] 43 (by simp) [(0, (carillonref09_Put.v0 ah aB aC aD aE aF aG aH aI aJ ai aj ak al am an ao ap aq ar au av aw)), (1, .slice A1 l1.length a0)] (by simp)
 have bl := Below.refl w.heap.size w
 refine wp_seq_k (fun K1 bo => ?_)
 refine reg_seq (I := I1_ w) (ps := [IsB (carillonref09_Put.c1 ah aB aC aD aE aF aG aH aI aJ ai aj ak al am an ao ap aq ar au av aw) 28 w.heap.size, IsV (.string (⟨#[]⟩ : ByteArray)), VB false]) (by kernel_rfl) ?_ ?_ rfl hS bl ?_ ?_
 ·exact bs1
 ·exact .cons (Stays.b _ _ _) (.v (.v (.nil)))
 ·refine .on rfl (fun a w hS hI hp => does_var (x_box rfl (congrArg Value.cells (hS.get 0 rfl))) (hI).size) ?_
  iterate 2 refine .on rfl (fun a w hS hI hp => does_val (x_assign rfl (rfl)) rfl) ?_
  exact .nil
 clear hS
 intro bM w3 hS br hp
 replace hS := (hS.nil).cons (hS.get 1 rfl)
 obtain ⟨g4, a1, bs, ac⟩ := (show IsB _ 28 _ (sl _ 2) _ from hp 0 (by decide))
 have hS := hS.cons a1
 clear hp a1
 refine bo _ _ ?_
 refine wp_seq_k (fun K5 bp => ?_)
 refine reg_seq (I := I2_ w w3) (ps := [IsV (.slice A1 l1.length a0), IsT (fun v0_ => #[v0_, .bool ab]) (IsR (Kd.int .u8) 5 w3.heap.size aa), IsT (fun v0_ => #[v0_, .bool ab]) (IsR (Kd.int .u8) 5 w3.heap.size aa), IsR (Kd.int .u8) 5 w3.heap.size aa, VB ab, IsR (Kd.int .u8) 5 w3.heap.size aa, VB ab]) (by kernel_rfl) ?_ ?_ rfl hS ⟨br, (bR w3)⟩ ?_ ?_
 ·exact bs2
 ·exact .v (.cons (Stays.t _ (Stays.r _ _ _ _)) (.cons (Stays.t _ (Stays.r _ _ _ _)) (.cons (Stays.r _ _ _ _) (.v (.cons (Stays.r _ _ _ _) (.v (.nil)))))))
 ·refine .ms 1 rfl rfl rfl ?_
  refine .on rfl (fun a w hS hI hp => does_call (by kernel_rfl) (ar1 (hp.V 0 rfl rfl)) ((carillonref08_Put.calls k _ _ l1 aa ab _ (Kd.C_below HR1 hI.1) HC1 bk).mono fun _ _ h => h.elim fun v0 h => ⟨_, h.1, h.2.2, v0, rfl, Kd.R_lower h.2.1 hI.2.size⟩)) ?_
  refine .on rfl (fun a w hS hI hp => does_val (x_move rfl rfl) (hp.V 1 rfl rfl)) ?_
  refine .on rfl (fun a w hS hI hp => (hp.V 2 rfl rfl).elim fun v0 h0 => does_val (x_extract rfl h0.1 rfl) h0.2) ?_
  refine .on rfl (fun a w hS hI hp => (hp.V 2 rfl rfl).elim fun v0 h0 => does_val (x_extract rfl h0.1 rfl) rfl) ?_
  refine .on rfl (fun a w hS hI hp => does_val (x_assign rfl rfl) (hp.V 3 rfl rfl)) ?_
  refine .asg 4 rfl rfl rfl ?_
  exact .nil
 clear hS
 intro bN w8 hS aS hp
 replace hS := (hS.nil).cons (hS.get 0 rfl)
 obtain ⟨A9, C9, aW, bO, bq⟩ := Kd.R_reads (show Kd.R (Kd.int .u8) 5 w8 w3.heap.size (fun _ => True) (sl _ 6) aa from hp 5 (by decide))
 have bP : Kd.R (Kd.int .u8) 5 w8 w3.heap.size (fun _ => True) (.slice A9 aa.length C9) aa := aW ▸ (hp 5 (by decide))
 have a2 : sl _ 7 = .bool ab := hp 6 (by decide)
 have hS := hS.cons aW
 have hS := hS.cons a2
 clear hp aW a2
 refine bp _ _ ?_
 refine wp_seq_k (fun bG ba => ?_)
 refine wp_seq_k (fun bH aU => ?_)
 by_cases c1 : ab = true
 rotate_left
 ·rw [if_neg c1] at H
  simp only [Option.some.injEq, Prod.mk.injEq] at H
  obtain ⟨rfl, rfl⟩ := H
  refine reg_seq (I := I3_ w w3 w8) (ps := [VB ab, VB (!ab), VB (!ab), VU, VU, VU, VB true]) (by kernel_rfl) ?_ ?_ rfl hS ⟨aS.1, aS.2, (bR w8)⟩ ?_ ?_
  ·exact bs3
  ·exact .v (.v (.v (.v (.v (.v (.v (.nil)))))))
  ·refine .ms 0 rfl rfl rfl ?_
   refine .on rfl (fun a w hS hI hp => does_val (x_not rfl (hp.V 0 rfl rfl)) rfl) ?_
   refine .mv 1 rfl rfl rfl ?_
   iterate 3 refine .sn 2 17 rfl rfl ((congrArg (!·) (Bool.eq_false_iff.2 c1))) ?_
   refine .on rfl (fun a w hS hI hp => does_val (x_pickT rfl ((hp.V 2 rfl rfl).trans (bT (congrArg (!·) (Bool.eq_false_iff.2 c1)))) (rfl)) rfl) ?_
   exact .nil
  clear hS
  intro bt a4 hS aQ hp
  replace hS := ((hS.nil).cons (hS.get 2 rfl)).cons (hS.get 1 rfl)
  have aK : sl _ 21 = .bool true := hp 6 (by decide)
  have hS := hS.cons aK
  clear hp aK
  refine aU _ _ ?_
  refine wp_cond_true ((hS.get 0 rfl).trans (bT rfl)) ?_
  refine wp_seq_k (fun bI bb => ?_)
  refine reg_seq (I := I4_ w w3 w8 a4) (ps := [IsV (.string (⟨#[]⟩ : ByteArray)), VB false]) (by kernel_rfl) ?_ ?_ rfl hS ⟨aQ.1, aQ.2.1, aQ.2.2, (bR a4)⟩ ?_ ?_
  ·exact bs4
  ·exact .v (.v (.nil))
  ·refine .on rfl (fun a w hS hI hp => does_val (x_assign rfl (rfl)) rfl) ?_
   refine .on rfl (fun a w hS hI hp => does_val (x_assign rfl (rfl)) rfl) ?_
   exact .nil
  clear hS
  intro bv bQ hS bg hp
  replace hS := hS.nil
  have ae : sl _ 4 = .string (⟨#[]⟩ : ByteArray) := hp 0 (by decide)
  have af : sl _ 5 = .bool false := hp 1 (by decide)
  have hS := hS.cons ae
  have hS := hS.cons af
  clear hp ae af
  refine bb _ _ ?_
  refine wp_ret ?_
  (try simp only [Exit.then, Exit.inBlock, Exit.jump, Exit.noGoto])
  exact bodyPost_ret (v := .tuple #[.string (⟨#[]⟩ : ByteArray), .bool false]) (results_list (rs := [.tmp 4, .tmp 5]) rfl (by simp) (Vals.at (hS.get 1 rfl) (Vals.at (hS.get 0 rfl) .nil))) hS.nodef ⟨rfl, bg.1⟩
 rw [if_pos c1] at H
 obtain ⟨aM, a6, H⟩ := Option.bind_eq_some_iff.mp H
 refine reg_seq (I := I3_ w w3 w8) (ps := [VB ab, VB (!ab), VB (!ab), IsV ((carillonref09_Put.v0 ah aB aC aD aE aF aG aH aI aJ ai aj ak al am an ao ap aq ar au av aw)), VB aM, VB (!aM), VB (!aM)]) (by kernel_rfl) ?_ ?_ rfl hS ⟨aS.1, aS.2, (bR w8)⟩ ?_ ?_
 ·exact bs3
 ·exact .v (.v (.v (.v (.v (.v (.v (.nil)))))))
 ·refine .ms 0 rfl rfl rfl ?_
  refine .on rfl (fun a w hS hI hp => does_val (x_not rfl (hp.V 0 rfl rfl)) rfl) ?_
  refine .mv 1 rfl rfl rfl ?_
  refine .oy 2 17 rfl rfl ((congrArg (!·) c1)) (fun a w hS hI hp => does_loadrow rfl (hS.get 2 rfl) (((hI.2.1).block g4 (blk_lt ac)).trans ac) Try.underlying28 rfl (by kernel_rfl) rfl) ?_
  refine .oy 2 17 rfl rfl ((congrArg (!·) c1)) (fun a w hS hI hp => does_call (by kernel_rfl) (ar1 (hp.V 3 rfl rfl)) ((carillonref07_Check.calls (w := _) (h := a6)).mono fun _ _ h => ⟨_, h.1, h.2, rfl⟩)) ?_
  refine .oy 2 17 rfl rfl ((congrArg (!·) c1)) (fun a w hS hI hp => does_val (x_not rfl (hp.V 4 rfl rfl)) rfl) ?_
  refine .on rfl (fun a w hS hI hp => does_val (x_pickF rfl ((hp.V 2 rfl rfl).trans (bF (congrArg (!·) c1))) (hp.V 5 rfl rfl)) rfl) ?_
  exact .nil
 clear hS
 intro bu aT hS az hp
 replace hS := ((hS.nil).cons (hS.get 2 rfl)).cons (hS.get 1 rfl)
 have aK : sl _ 21 = .bool (!aM) := hp 6 (by decide)
 have hS := hS.cons aK
 clear hp aK
 refine aU _ _ ?_
 by_cases c2 : aM = true
 rotate_left
 ·rw [if_neg c2] at H
  simp only [Option.some.injEq, Prod.mk.injEq] at H
  obtain ⟨rfl, rfl⟩ := H
  refine wp_cond_true ((hS.get 0 rfl).trans (bT (congrArg (!·) (Bool.eq_false_iff.2 c2)))) ?_
  refine wp_seq_k (fun bm aO => ?_)
  refine reg_seq (I := I4_ w w3 w8 aT) (ps := [IsV (.string (⟨#[]⟩ : ByteArray)), VB false]) (by kernel_rfl) ?_ ?_ rfl hS ⟨az.1, az.2.1, az.2.2, (bR aT)⟩ ?_ ?_
  ·exact bs4
  ·exact .v (.v (.nil))
  ·refine .on rfl (fun a w hS hI hp => does_val (x_assign rfl (rfl)) rfl) ?_
   refine .on rfl (fun a w hS hI hp => does_val (x_assign rfl (rfl)) rfl) ?_
   exact .nil
  clear hS
  intro bw bS hS bh hp
  replace hS := hS.nil
  have ae : sl _ 4 = .string (⟨#[]⟩ : ByteArray) := hp 0 (by decide)
  have af : sl _ 5 = .bool false := hp 1 (by decide)
  have hS := hS.cons ae
  have hS := hS.cons af
  clear hp ae af
  refine aO _ _ ?_
  refine wp_ret ?_
  (try simp only [Exit.then, Exit.inBlock, Exit.jump, Exit.noGoto])
  exact bodyPost_ret (v := .tuple #[.string (⟨#[]⟩ : ByteArray), .bool false]) (results_list (rs := [.tmp 4, .tmp 5]) rfl (by simp) (Vals.at (hS.get 1 rfl) (Vals.at (hS.get 0 rfl) .nil))) hS.nodef ⟨rfl, bh.1⟩
 rw [if_pos c2] at H
 obtain ⟨ag, a7, H⟩ := Option.bind_eq_some_iff.mp H
 refine wp_cond_false ((hS.get 0 rfl).trans (bF (congrArg (!·) c2))) ?_
 refine wp_skip ?_
 refine ba _ _ ?_
 refine wp_seq_k (fun bm aO => ?_)
 refine reg_seq (I := I4_ w w3 w8 aT) (ps := [VP g4 0, VI ah, VI ag, VI (wrap64 (34 + ag)), IsV (.slice A9 aa.length C9), VI (aa.length : Int), VI (wrap64 ((wrap64 (34 + ag)) + (aa.length : Int))), VI (wrap64 ((wrap64 (34 + ag)) + (aa.length : Int)))]) (by kernel_rfl) ?_ ?_ rfl hS ⟨az.1, az.2.1, az.2.2, (bR aT)⟩ ?_ ?_
 ·exact bs4
 ·exact .v (.v (.v (.v (.v (.v (.v (.v (.nil))))))))
 ·refine .on rfl (fun a w hS hI hp => does_val (x_fieldE (b := 0) rfl (hS.get 2 rfl) Try.underlying28 rfl rfl (by kernel_rfl)) rfl) ?_
  refine .on rfl (fun a w hS hI hp => does_val (x_load1 (d := .int .i64) rfl (hp.V 0 rfl rfl) (by kernel_rfl) rfl ((blk_cell (((hI.2.1).block g4 (blk_lt ac)).trans ac) 0).trans rfl)) rfl) ?_
  refine .on rfl (fun a w hS hI hp => does_call (by kernel_rfl) (ar1 (hp.V 1 rfl rfl)) ((carillonref07_Len.calls k ah ag _  a7).mono fun _ _ h => ⟨_, h.1, h.2.below, rfl⟩)) ?_
  refine .on rfl (fun a w hS hI hp => does_val (x_bin rfl (rfl) (hp.V 2 rfl rfl) (b_add _ _ _ _ _)) rfl) ?_
  refine .ms 1 rfl rfl rfl ?_
  refine .on rfl (fun a w hS hI hp => does_val (x_len (e := 5) rfl (by kernel_rfl) (hp.V 4 rfl rfl)) rfl) ?_
  refine .on rfl (fun a w hS hI hp => does_val (x_bin rfl (hp.V 3 rfl rfl) (hp.V 5 rfl rfl) (b_add _ _ _ _ _)) rfl) ?_
  refine .asg 6 rfl rfl rfl ?_
  exact .nil
 clear hS
 intro bx a5 hS aR hp
 replace hS := ((hS.nil).cons (hS.get 2 rfl)).cons (hS.get 1 rfl)
 have a3 : sl _ 8 = .int .i64 (wrap64 ((wrap64 (34 + ag)) + (aa.length : Int))) := hp 7 (by decide)
 have hS := hS.cons a3
 clear hp a3
 refine aO _ _ ?_
 refine wp_seq_k (fun bJ bc => ?_)
 refine wp_seq_k (fun bK bd => ?_)
 refine reg_seq (I := I4_ w w3 w8 a5) (ps := [VI (wrap64 ((wrap64 (34 + ag)) + (aa.length : Int))), VB (decide ((wrap64 ((wrap64 (34 + ag)) + (aa.length : Int))) > 400))]) (by kernel_rfl) ?_ ?_ rfl hS ⟨aR.1, aR.2.1, aR.2.2.1, (bR a5)⟩ ?_ ?_
 ·exact bs4
 ·exact .v (.v (.nil))
 ·refine .ms 0 rfl rfl rfl ?_
  refine .on rfl (fun a w hS hI hp => does_val (x_bin rfl (hp.V 0 rfl rfl) (rfl) (b_gtr _ _ _ _ _ _)) rfl) ?_
  exact .nil
 clear hS
 intro bz ay hS aA hp
 have aV : sl _ 30 = .bool (decide ((wrap64 ((wrap64 (34 + ag)) + (aa.length : Int))) > 400)) := hp 1 (by decide)
 have hS := hS.cons aV
 clear hp aV
 refine bd _ _ ?_
 by_cases c3 : (wrap64 ((wrap64 (34 + ag)) + (aa.length : Int))) > 400
 ·rw [if_pos c3] at H
  simp only [Option.some.injEq, Prod.mk.injEq] at H
  obtain ⟨rfl, rfl⟩ := H
  refine wp_cond_true ((hS.get 0 rfl).trans (bT (decide_eq_true c3))) ?_
  refine wp_seq_k (fun bn aP => ?_)
  refine reg_seq (I := I4_ w w3 w8 ay) (ps := [IsV (.string (⟨#[]⟩ : ByteArray)), VB false]) (by kernel_rfl) ?_ ?_ rfl hS ⟨aA.1, aA.2.1, aA.2.2.1, (bR ay)⟩ ?_ ?_
  ·exact bs4
  ·exact .v (.v (.nil))
  ·refine .on rfl (fun a w hS hI hp => does_val (x_assign rfl (rfl)) rfl) ?_
   refine .on rfl (fun a w hS hI hp => does_val (x_assign rfl (rfl)) rfl) ?_
   exact .nil
  clear hS
  intro bA bU hS bi hp
  replace hS := hS.nil
  have ae : sl _ 4 = .string (⟨#[]⟩ : ByteArray) := hp 0 (by decide)
  have af : sl _ 5 = .bool false := hp 1 (by decide)
  have hS := hS.cons ae
  have hS := hS.cons af
  clear hp ae af
  refine aP _ _ ?_
  refine wp_ret ?_
  (try simp only [Exit.then, Exit.inBlock, Exit.jump, Exit.noGoto])
  exact bodyPost_ret (v := .tuple #[.string (⟨#[]⟩ : ByteArray), .bool false]) (results_list (rs := [.tmp 4, .tmp 5]) rfl (by simp) (Vals.at (hS.get 1 rfl) (Vals.at (hS.get 0 rfl) .nil))) hS.nodef ⟨rfl, bi.1⟩
 rw [if_neg c3] at H
 obtain ⟨ad, a8, H⟩ := Option.bind_eq_some_iff.mp H
 obtain ⟨ax, a9, H⟩ := Option.bind_eq_some_iff.mp H
 by_cases c4 : (strOfNums ad).size + (strOfNums ax).size ≤ 9223372036854775807
 rotate_left
 ·rw [if_neg c4] at H
  exact absurd H (by simp)
 rw [if_pos c4] at H
 by_cases c5 : ((strOfNums ad) ++ (strOfNums ax)).size + (strOfNums aa).size ≤ 9223372036854775807
 rotate_left
 ·rw [if_neg c5] at H
  exact absurd H (by simp)
 rw [if_pos c5] at H
 simp only [Option.some.injEq, Prod.mk.injEq] at H
 obtain ⟨rfl, rfl⟩ := H
 refine wp_cond_false ((hS.get 0 rfl).trans (bF (decide_eq_false c3))) ?_
 refine wp_skip ?_
 refine bc _ _ ?_
 refine wp_seq_k (fun bn aP => ?_)
 refine reg_seq (I := I4_ w w3 w8 ay) (ps := [IsV ((carillonref09_Put.v0 ah aB aC aD aE aF aG aH aI aJ ai aj ak al am an ao ap aq ar au av aw)), VI (wrap64 ((wrap64 (34 + ag)) + (aa.length : Int))), IsR (Kd.int .u8) 5 ay.heap.size ad, IsR (Kd.int .u8) 5 ay.heap.size ad]) (by kernel_rfl) ?_ ?_ rfl hS ⟨aA.1, aA.2.1, aA.2.2.1, (bR ay)⟩ ?_ ?_
 ·exact bs4
 ·exact .v (.v (.cons (Stays.r _ _ _ _) (.cons (Stays.r _ _ _ _) (.nil))))
 ·refine .on rfl (fun a w hS hI hp => does_loadrow rfl (hS.get 3 rfl) (((hI.2.1).block g4 (blk_lt ac)).trans ac) Try.underlying28 rfl (by kernel_rfl) rfl) ?_
  refine .ms 1 rfl rfl rfl ?_
  refine .on rfl (fun a w hS hI hp => does_call (by kernel_rfl) (ar2 (hp.V 0 rfl rfl) (hp.V 1 rfl rfl)) ((carillonref06_Put.calls (w := _) (h := a8)).mono fun _ _ h => h.elim fun v0 h => ⟨v0, h.1, h.2.2, Kd.R_lower h.2.1 hI.2.2.2.size⟩)) ?_
  refine .on rfl (fun a w hS hI hp => does_val (x_assign rfl rfl) (hp.V 2 rfl rfl)) ?_
  exact .nil
 clear hS
 intro bB aN hS aL hp
 replace hS := ((hS.nil).cons (hS.get 3 rfl)).cons (hS.get 2 rfl)
 obtain ⟨aY, aZ, aX, bD, bf⟩ := Kd.R_reads (show Kd.R (Kd.int .u8) 5 aN ay.heap.size (fun _ => True) (sl _ 9) ad from hp 3 (by decide))
 have bE : Kd.R (Kd.int .u8) 5 aN ay.heap.size (fun _ => True) (.slice aY ad.length aZ) ad := aX ▸ (hp 3 (by decide))
 have hS := hS.cons aX
 clear hp aX
 refine aP _ _ ?_
 refine wp_seq_k (fun bL be => ?_)
 refine reg_any (I := I5_ w w3 w8 ay aN) (ps := [IsV (.slice aY ad.length aZ), IsV (.string (strOfNums ad)), IsV ((carillonref09_Put.v0 ah aB aC aD aE aF aG aH aI aJ ai aj ak al am an ao ap aq ar au av aw)), IsR (Kd.int .u8) 5 aN.heap.size ax, IsV (.string (strOfNums ax)), IsV (.string ((strOfNums ad) ++ (strOfNums ax))), IsV (.slice A9 aa.length C9), IsV (.string (strOfNums aa)), IsV (.string (((strOfNums ad) ++ (strOfNums ax)) ++ (strOfNums aa))), IsV (.string (((strOfNums ad) ++ (strOfNums ax)) ++ (strOfNums aa))), VB true]) (by kernel_rfl) (by kernel_rfl) ?_ ?_ rfl hS ⟨aL.1, aL.2.1, aL.2.2.1, aL.2.2.2, (bR aN)⟩ ?_ ?_
 ·exact bs5
 ·exact .v (.v (.v (.cons (Stays.r _ _ _ _) (.v (.v (.v (.v (.v (.v (.v (.nil)))))))))))
 ·refine .ms 0 rfl rfl rfl ?_
  refine .on rfl (fun a w hS hI hp => does_val (x_conv rfl (hp.V 0 rfl rfl) (Kd.C_string (by kernel_rfl) (e := 5) (by kernel_rfl) (by kernel_rfl) (Kd.C_below bf hI.2.2.2.2))) rfl) ?_
  refine .on rfl (fun a w hS hI hp => does_loadrow rfl (hS.get 2 rfl) (((hI.2.1).block g4 (blk_lt ac)).trans ac) Try.underlying28 rfl (by kernel_rfl) rfl) ?_
  refine .on rfl (fun a w hS hI hp => does_call (by kernel_rfl) (ar1 (hp.V 2 rfl rfl)) ((carillonref07_Put.calls (w := _) (h := a9)).mono fun _ _ h => h.elim fun v0 h => ⟨v0, h.1, h.2.2, Kd.R_lower h.2.1 hI.2.2.2.2.size⟩)) ?_
  refine .on rfl (fun a w hS hI hp => (IsC.of_r (hp.V 3 rfl rfl)).elim fun A_ h_ => h_.elim fun c_ h_ => h_.elim fun hv_ h_ => h_.elim fun hl_ hc_ => does_val (x_conv rfl hv_ (Kd.C_string (by kernel_rfl) (e := 5) (by kernel_rfl) (by kernel_rfl) hc_)) rfl) ?_
  refine .on rfl (fun a w hS hI hp => does_val (x_bin rfl (hp.V 1 rfl rfl) (hp.V 4 rfl rfl) (b_adds _ _ _ _ _ c4)) rfl) ?_
  refine .ms 1 rfl rfl rfl ?_
  refine .on rfl (fun a w hS hI hp => does_val (x_conv rfl (hp.V 6 rfl rfl) (Kd.C_string (by kernel_rfl) (e := 5) (by kernel_rfl) (by kernel_rfl) (Kd.C_below bq hI.2.2.1))) rfl) ?_
  refine .on rfl (fun a w hS hI hp => does_val (x_bin rfl (hp.V 5 rfl rfl) (hp.V 7 rfl rfl) (b_adds _ _ _ _ _ c5)) rfl) ?_
  refine .asg 8 rfl rfl rfl ?_
  refine .on rfl (fun a w hS hI hp => does_val (x_assign rfl (rfl)) rfl) ?_
  exact .nil
 clear hS
 intro bC bV hS bj hp
 replace hS := hS.nil
 have ae : sl _ 4 = .string (((strOfNums ad) ++ (strOfNums ax)) ++ (strOfNums aa)) := hp 9 (by decide)
 have af : sl _ 5 = .bool true := hp 10 (by decide)
 have hS := hS.cons ae
 have hS := hS.cons af
 clear hp ae af
 refine be _ _ ?_
 refine wp_ret ?_
 (try simp only [Exit.then, Exit.inBlock, Exit.jump, Exit.noGoto])
 exact bodyPost_ret (v := .tuple #[.string (((strOfNums ad) ++ (strOfNums ax)) ++ (strOfNums aa)), .bool true]) (results_list (rs := [.tmp 4, .tmp 5]) rfl (by simp) (Vals.at (hS.get 1 rfl) (Vals.at (hS.get 0 rfl) .nil))) hS.nodef ⟨rfl, bj.1⟩
def carillonlaw09_FramePuts.f (k : Nat) (a0_0 a0_1 a0_2 a0_3 a0_4 a0_5 a0_6 a0_7 a0_8 a0_9 a0_10 a0_11 a0_12 a0_13 a0_14 a0_15 a0_16 a0_17 a0_18 a0_19 a0_20 a0_21 a0_22 : Int) (l1 : List (S43)) : Option (Bool) := (carillonlaw09_few.f k l1).bind fun t7 => (if t7 = true then ((carillonlaw00_Tlvs.f l1).bind fun t11 => ((frame_Put.f k a0_0 a0_1 a0_2 a0_3 a0_4 a0_5 a0_6 a0_7 a0_8 a0_9 a0_10 a0_11 a0_12 a0_13 a0_14 a0_15 a0_16 a0_17 a0_18 a0_19 a0_20 a0_21 a0_22 t11).bind fun t12 => ((carillonref09_Put.f k a0_0 a0_1 a0_2 a0_3 a0_4 a0_5 a0_6 a0_7 a0_8 a0_9 a0_10 a0_11 a0_12 a0_13 a0_14 a0_15 a0_16 a0_17 a0_18 a0_19 a0_20 a0_21 a0_22 l1).bind fun t16 => (if (t12.1.toList == t16.1.toList) = true then (if (t12.2 == t16.2) = true then ((carillonlaw09_awake.f k ).bind fun t20 => (some t20)) else (some false)) else (some false))))) else ((carillonlaw09_awake.f k ).bind fun t11 => (some t11)))
abbrev carillonlaw09_FramePuts.v0 (x0 x1 x2 x3 x4 x5 x6 x7 x8 x9 x10 x11 x12 x13 x14 x15 x16 x17 x18 x19 x20 x21 x22 : Int) : Value := .agg #[.int .i64 x0, .int .i64 x1, .int .i64 x2, .int .i64 x3, .int .u64 x4, .int .i64 x5, .int .i64 x6, .int .i64 x7, .int .i64 x8, .int .u64 x9, .int .i64 x10, .int .i64 x11, .int .i64 x12, .int .i64 x13, .int .i64 x14, .int .i64 x15, .int .i64 x16, .int .u64 x17, .int .i64 x18, .int .i64 x19, .int .i64 x20, .int .i64 x21, .int .i64 x22]
abbrev carillonlaw09_FramePuts.c1 (x0 x1 x2 x3 x4 x5 x6 x7 x8 x9 x10 x11 x12 x13 x14 x15 x16 x17 x18 x19 x20 x21 x22 : Int) : Array Value := #[.int .i64 x0, .int .i64 x1, .int .i64 x2, .int .i64 x3, .int .u64 x4, .int .i64 x5, .int .i64 x6, .int .i64 x7, .int .i64 x8, .int .u64 x9, .int .i64 x10, .int .i64 x11, .int .i64 x12, .int .i64 x13, .int .i64 x14, .int .i64 x15, .int .i64 x16, .int .u64 x17, .int .i64 x18, .int .i64 x19, .int .i64 x20, .int .i64 x21, .int .i64 x22]
open Go.Proofs.Ytiomlbkakiienaa.E in
set_option maxHeartbeats 60000000 in
set_option maxRecDepth 100000 in
theorem carillonlaw09_FramePuts.calls (k : Nat) (an ao ap aq ar au av aw ax ay aa ab ac ad ae af ag ah ai aj ak al am : Int) (A1 : Option Addr) (aK : Nat) (l1 : List (S43)) (w : World) (HR1 : Kd.C k43 w A1 l1.length l1) (HC1 : l1.length ≤ aK) (h : carillonlaw09_FramePuts.f k an ao ap aq ar au av aw ax ay aa ab ac ad ae af ag ah ai aj ak al am l1 = some true) :
    Calls Try.prog 3 #[.agg #[.int .i64 an, .int .i64 ao, .int .i64 ap, .int .i64 aq, .int .u64 ar, .int .i64 au, .int .i64 av, .int .i64 aw, .int .i64 ax, .int .u64 ay, .int .i64 aa, .int .i64 ab, .int .i64 ac, .int .i64 ad, .int .i64 ae, .int .i64 af, .int .i64 ag, .int .u64 ah, .int .i64 ai, .int .i64 aj, .int .i64 ak, .int .i64 al, .int .i64 am], .slice A1 l1.length aK] w fun e w' => e = .returned (.bool true) ∧ Below w.heap.size w w' := by
 have H := h
 clear h
 unfold carillonlaw09_FramePuts.f at H
 obtain ⟨t7, a4, H⟩ := Option.bind_eq_some_iff.mp H
 refine calls_of_wp (fn := Try.f3) (by kernel_rfl) rfl ?_
 have hS := St.enter #[(carillonlaw09_FramePuts.v0 an ao ap aq ar au av aw ax ay aa ab ac ad ae af ag ah ai aj ak al am), .slice A1 l1.length aK] 37 (by simp) [(0, (carillonlaw09_FramePuts.v0 an ao ap aq ar au av aw ax ay aa ab ac ad ae af ag ah ai aj ak al am)), (1, .slice A1 l1.length aK)] (by simp)
 have a5 := Below.refl w.heap.size w
 refine wp_seq_k (fun K1 a7 => ?_)
 refine reg_seq (I := I1_ w) (ps := [IsB (carillonlaw09_FramePuts.c1 an ao ap aq ar au av aw ax ay aa ab ac ad ae af ag ah ai aj ak al am) 28 w.heap.size, VB false]) (by kernel_rfl) ?_ ?_ rfl hS a5 ?_ ?_
 ·exact bs1
 ·exact .cons (Stays.b _ _ _) (.v (.nil))
 ·refine .on rfl (fun a w hS hI hp => does_var (x_box rfl (congrArg Value.cells (hS.get 0 rfl))) (hI).size) ?_
  refine .on rfl (fun a w hS hI hp => does_val (x_assign rfl (rfl)) rfl) ?_
  exact .nil
 clear hS
 intro bk w3 hS ba hp
 replace hS := (hS.nil).cons (hS.get 1 rfl)
 obtain ⟨g4, aP, bd, aE⟩ := (show IsB _ 28 _ (sl _ 2) _ from hp 0 (by decide))
 have hS := hS.cons aP
 clear hp aP
 refine a7 _ _ ?_
 refine wp_seq_k (fun K5 a8 => ?_)
 refine wp_seq_k (fun K6 a9 => ?_)
 refine reg_seq (I := I2_ w w3) (ps := [IsV (.slice A1 l1.length aK), VB t7, VB (!t7)]) (by kernel_rfl) ?_ ?_ rfl hS ⟨ba, (bR w3)⟩ ?_ ?_
 ·exact bs2
 ·exact .v (.v (.v (.nil)))
 ·refine .ms 1 rfl rfl rfl ?_
  refine .on rfl (fun a w hS hI hp => does_call (by kernel_rfl) (ar1 (hp.V 0 rfl rfl)) ((carillonlaw09_few.calls k _ _ l1 t7 _ (Kd.C_below HR1 hI.1) HC1 a4).mono fun _ _ h => ⟨_, h.1, h.2.below, rfl⟩)) ?_
  refine .on rfl (fun a w hS hI hp => does_val (x_not rfl (hp.V 1 rfl rfl)) rfl) ?_
  exact .nil
 clear hS
 intro bl w9 hS aL hp
 have aM : sl _ 11 = .bool (!t7) := hp 2 (by decide)
 have hS := hS.cons aM
 clear hp aM
 refine a9 _ _ ?_
 by_cases c1 : t7 = true
 rotate_left
 ·rw [if_neg c1] at H
  obtain ⟨aD, aH, H⟩ := Option.bind_eq_some_iff.mp H
  have hret := Option.some.inj H
  clear H
  refine wp_cond_true ((hS.get 0 rfl).trans (bT (congrArg (!·) (Bool.eq_false_iff.2 c1)))) ?_
  refine wp_seq_k (fun a6 aJ => ?_)
  refine reg_seq (I := I3_ w w3 w9) (ps := [VB aD, VB aD]) (by kernel_rfl) ?_ ?_ rfl hS ⟨aL.1, aL.2, (bR w9)⟩ ?_ ?_
  ·exact bs3
  ·exact .v (.v (.nil))
  ·refine .on rfl (fun a w hS hI hp => does_call (by kernel_rfl) rfl ((carillonlaw09_awake.calls k  aD _  aH).mono fun _ _ h => ⟨_, h.1, h.2, rfl⟩)) ?_
   refine .asg 0 rfl rfl rfl ?_
   exact .nil
  clear hS
  intro be bm hS a2 hp
  replace hS := hS.nil
  have aF : sl _ 4 = .bool aD := hp 1 (by decide)
  have hS := hS.cons aF
  clear hp aF
  refine aJ _ _ ?_
  refine wp_ret ?_
  (try simp only [Exit.then, Exit.inBlock, Exit.jump, Exit.noGoto])
  exact bodyPost_ret (v := .bool true) (by rw [results_tmp rfl]; exact congrArg (Result.ok · _) ((hS.get 0 rfl).trans (congrArg Value.bool hret))) hS.nodef ⟨rfl, a2.1⟩
 rw [if_pos c1] at H
 obtain ⟨aD, aH, H⟩ := Option.bind_eq_some_iff.mp H
 obtain ⟨bb, aW, H⟩ := Option.bind_eq_some_iff.mp H
 obtain ⟨aB, az⟩ := bb
 (try dsimp only at H)
 obtain ⟨bc, aX, H⟩ := Option.bind_eq_some_iff.mp H
 obtain ⟨aC, aA⟩ := bc
 (try dsimp only at H)
 by_cases c2 : (aB.toList == aC.toList) = true
 rotate_left
 ·rw [if_neg c2] at H
  exact absurd H (by simp)
 rw [if_pos c2] at H
 by_cases c3 : (az == aA) = true
 rotate_left
 ·rw [if_neg c3] at H
  exact absurd H (by simp)
 rw [if_pos c3] at H
 obtain ⟨aG, aY, H⟩ := Option.bind_eq_some_iff.mp H
 have hret := Option.some.inj H
 clear H
 refine wp_cond_false ((hS.get 0 rfl).trans (bF (congrArg (!·) c1))) ?_
 refine wp_skip ?_
 refine a8 _ _ ?_
 refine wp_seq_k (fun a6 aJ => ?_)
 refine reg_any (I := I3_ w w3 w9) (ps := [IsV ((carillonlaw09_FramePuts.v0 an ao ap aq ar au av aw ax ay aa ab ac ad ae af ag ah ai aj ak al am)), IsV (.slice A1 l1.length aK), IsR k43 43 w9.heap.size aD, IsV (.tuple #[.string aB, .bool az]), IsV (.tuple #[.string aB, .bool az]), IsV (.string aB), VB az, IsV (.string aB), VB az]) (by kernel_rfl) (by kernel_rfl) ?_ ?_ rfl hS ⟨aL.1, aL.2, (bR w9)⟩ ?_ ?_
 ·exact bs3
 ·exact .v (.v (.cons (Stays.r _ _ _ _) (.v (.v (.v (.v (.v (.v (.nil)))))))))
 ·refine .on rfl (fun a w hS hI hp => does_loadrow rfl (hS.get 1 rfl) (((hI.2.1).block g4 (blk_lt aE)).trans aE) Try.underlying28 rfl (by kernel_rfl) rfl) ?_
  refine .ms 2 rfl rfl rfl ?_
  refine .on rfl (fun a w hS hI hp => does_call (by kernel_rfl) (ar1 (hp.V 1 rfl rfl)) ((carillonlaw00_Tlvs.calls _ _ l1 aD _ (Kd.C_below HR1 hI.1) HC1 aH).mono fun _ _ h => h.elim fun v0 h => ⟨v0, h.1, h.2.2, Kd.R_lower h.2.1 hI.2.2.size⟩)) ?_
  refine .on rfl (fun a w hS hI hp => (IsC.of_r (hp.V 2 rfl rfl)).elim fun A_ h_ => h_.elim fun c_ h_ => h_.elim fun hv_ h_ => h_.elim fun hl_ hc_ => does_call (by kernel_rfl) (ar2 (hp.V 0 rfl rfl) (hv_)) ((frame_Put.calls k an ao ap aq ar au av aw ax ay aa ab ac ad ae af ag ah ai aj ak al am _ _ aD aB az _ hc_ hl_ aW).mono fun _ _ h => ⟨_, h.1, h.2, rfl⟩)) ?_
  refine .mv 3 rfl rfl rfl ?_
  iterate 2 refine .on rfl (fun a w hS hI hp => does_val (x_extract rfl (hp.V 4 rfl rfl) rfl) rfl) ?_
  refine .asg 5 rfl rfl rfl ?_
  refine .asg 6 rfl rfl rfl ?_
  exact .nil
 clear hS
 intro bf aU hS aN hp
 replace hS := ((hS.nil).cons (hS.get 2 rfl)).cons (hS.get 1 rfl)
 have aQ : sl _ 5 = .string aB := hp 7 (by decide)
 have aR : sl _ 6 = .bool az := hp 8 (by decide)
 have hS := hS.cons aQ
 have hS := hS.cons aR
 clear hp aQ aR
 refine aJ _ _ ?_
 refine wp_seq_k (fun bi aZ => ?_)
 refine reg_seq (I := I3_ w w3 aU) (ps := [IsV ((carillonlaw09_FramePuts.v0 an ao ap aq ar au av aw ax ay aa ab ac ad ae af ag ah ai aj ak al am)), IsV (.slice A1 l1.length aK), IsV (.tuple #[.string aC, .bool aA]), IsV (.tuple #[.string aC, .bool aA]), IsV (.string aC), VB aA, IsV (.string aC), VB aA]) (by kernel_rfl) ?_ ?_ rfl hS ⟨aN.1, aN.2.1, (bR aU)⟩ ?_ ?_
 ·exact bs3
 ·exact .v (.v (.v (.v (.v (.v (.v (.v (.nil))))))))
 ·refine .on rfl (fun a w hS hI hp => does_loadrow rfl (hS.get 2 rfl) (((hI.2.1).block g4 (blk_lt aE)).trans aE) Try.underlying28 rfl (by kernel_rfl) rfl) ?_
  refine .ms 3 rfl rfl rfl ?_
  refine .on rfl (fun a w hS hI hp => does_call (by kernel_rfl) (ar2 (hp.V 0 rfl rfl) (hp.V 1 rfl rfl)) ((carillonref09_Put.calls k an ao ap aq ar au av aw ax ay aa ab ac ad ae af ag ah ai aj ak al am _ _ l1 aC aA _ (Kd.C_below HR1 hI.1) HC1 aX).mono fun _ _ h => ⟨_, h.1, h.2, rfl⟩)) ?_
  refine .mv 2 rfl rfl rfl ?_
  iterate 2 refine .on rfl (fun a w hS hI hp => does_val (x_extract rfl (hp.V 3 rfl rfl) rfl) rfl) ?_
  refine .asg 4 rfl rfl rfl ?_
  refine .asg 5 rfl rfl rfl ?_
  exact .nil
 clear hS
 intro bg aV hS aO hp
 replace hS := ((hS.nil).cons (hS.get 1 rfl)).cons (hS.get 0 rfl)
 have aS : sl _ 7 = .string aC := hp 6 (by decide)
 have aT : sl _ 8 = .bool aA := hp 7 (by decide)
 have hS := hS.cons aS
 have hS := hS.cons aT
 clear hp aS aT
 refine aZ _ _ ?_
 refine wp_seq_k (fun bj a0 => ?_)
 refine reg_seq (I := I3_ w w3 aV) (ps := [IsV (.string aB), IsV (.string aC), VB (aB.toList == aC.toList), VB (aB.toList == aC.toList), VB az, VB aA, VB (az == aA), VB (az == aA), VB (az == aA), VB aG, VB aG, VB aG]) (by kernel_rfl) ?_ ?_ rfl hS ⟨aO.1, aO.2.1, (bR aV)⟩ ?_ ?_
 ·exact bs3
 ·exact .v (.v (.v (.v (.v (.v (.v (.v (.v (.v (.v (.v (.nil))))))))))))
 ·refine .ms 3 rfl rfl rfl ?_
  refine .ms 1 rfl rfl rfl ?_
  refine .on rfl (fun a w hS hI hp => does_val (x_bin rfl (hp.V 0 rfl rfl) (hp.V 1 rfl rfl) (b_eqs _ _ _ _ _)) rfl) ?_
  refine .mv 2 rfl rfl rfl ?_
  refine .oy 3 29 rfl rfl c2 (fun a w hS hI hp => does_val (x_move rfl (hS.get 2 rfl)) rfl) ?_
  refine .oy 3 29 rfl rfl c2 (fun a w hS hI hp => does_val (x_move rfl (hS.get 0 rfl)) rfl) ?_
  refine .oy 3 29 rfl rfl c2 (fun a w hS hI hp => does_val (x_bin rfl (hp.V 4 rfl rfl) (hp.V 5 rfl rfl) (b_eqb _ _ _ _ _ (by kernel_rfl))) rfl) ?_
  refine .pt 3 6 rfl rfl rfl c2 rfl ?_
  refine .mv 7 rfl rfl rfl ?_
  refine .oy 8 34 rfl rfl c3 (fun a w hS hI hp => does_call (by kernel_rfl) rfl ((carillonlaw09_awake.calls k  aG _  aY).mono fun _ _ h => ⟨_, h.1, h.2, rfl⟩)) ?_
  refine .pt 8 9 rfl rfl rfl c3 rfl ?_
  refine .asg 10 rfl rfl rfl ?_
  exact .nil
 clear hS
 intro bh bn hS a3 hp
 replace hS := hS.nil
 have aF : sl _ 4 = .bool aG := hp 11 (by decide)
 have hS := hS.cons aF
 clear hp aF
 refine a0 _ _ ?_
 refine wp_ret ?_
 (try simp only [Exit.then, Exit.inBlock, Exit.jump, Exit.noGoto])
 exact bodyPost_ret (v := .bool true) (by rw [results_tmp rfl]; exact congrArg (Result.ok · _) ((hS.get 0 rfl).trans (congrArg Value.bool hret))) hS.nodef ⟨rfl, a3.1⟩
def carillonlaw09_FramePuts.Pure : Prop := ∀ (an ao ap aq ar au av aw ax ay aa ab ac ad ae af ag ah ai aj ak al am : Int) (l1 : List (S43)), (Lit.int .i64 an).wf = true → (Lit.int .i64 ao).wf = true → (Lit.int .i64 ap).wf = true → (Lit.int .i64 aq).wf = true → (Lit.int .u64 ar).wf = true → (Lit.int .i64 au).wf = true → (Lit.int .i64 av).wf = true → (Lit.int .i64 aw).wf = true → (Lit.int .i64 ax).wf = true → (Lit.int .u64 ay).wf = true → (Lit.int .i64 aa).wf = true → (Lit.int .i64 ab).wf = true → (Lit.int .i64 ac).wf = true → (Lit.int .i64 ad).wf = true → (Lit.int .i64 ae).wf = true → (Lit.int .i64 af).wf = true → (Lit.int .i64 ag).wf = true → (Lit.int .u64 ah).wf = true → (Lit.int .i64 ai).wf = true → (Lit.int .i64 aj).wf = true → (Lit.int .i64 ak).wf = true → (Lit.int .i64 al).wf = true → (Lit.int .i64 am).wf = true → l1.length ≤ maxLen → l1.length * 24 ≤ 140737488351232 → (∀ x ∈ l1, (Lit.int .i64 x.f0).wf = true ∧ x.f1.size ≤ 9223372036854775807) → ∃ k, carillonlaw09_FramePuts.f k an ao ap aq ar au av aw ax ay aa ab ac ad ae af ag ah ai aj ak al am l1 = some true
theorem carillonlaw09_FramePuts.walk (P : carillonlaw09_FramePuts.Pure) (an ao ap aq ar au av aw ax ay aa ab ac ad ae af ag ah ai aj ak al am : Int) (a1 : Option Addr) (aI : Nat) (l1 : List (S43)) (w : World) (w0_0 : (Lit.int .i64 an).wf = true) (w0_1 : (Lit.int .i64 ao).wf = true) (w0_2 : (Lit.int .i64 ap).wf = true) (w0_3 : (Lit.int .i64 aq).wf = true) (w0_4 : (Lit.int .u64 ar).wf = true) (w0_5 : (Lit.int .i64 au).wf = true) (w0_6 : (Lit.int .i64 av).wf = true) (w0_7 : (Lit.int .i64 aw).wf = true) (w0_8 : (Lit.int .i64 ax).wf = true) (w0_9 : (Lit.int .u64 ay).wf = true) (w0_10 : (Lit.int .i64 aa).wf = true) (w0_11 : (Lit.int .i64 ab).wf = true) (w0_12 : (Lit.int .i64 ac).wf = true) (w0_13 : (Lit.int .i64 ad).wf = true) (w0_14 : (Lit.int .i64 ae).wf = true) (w0_15 : (Lit.int .i64 af).wf = true) (w0_16 : (Lit.int .i64 ag).wf = true) (w0_17 : (Lit.int .u64 ah).wf = true) (w0_18 : (Lit.int .i64 ai).wf = true) (w0_19 : (Lit.int .i64 aj).wf = true) (w0_20 : (Lit.int .i64 ak).wf = true) (w0_21 : (Lit.int .i64 al).wf = true) (w0_22 : (Lit.int .i64 am).wf = true) (hr1 : Kd.C k43 w a1 l1.length l1) (hc1 : l1.length ≤ aI) (hm1 : l1.length ≤ maxLen) (y1 : l1.length * 24 ≤ 140737488351232) (hw1 : (∀ x ∈ l1, (Lit.int .i64 x.f0).wf = true ∧ x.f1.size ≤ 9223372036854775807)) :
  Calls Try.prog 3 #[(carillonlaw09_FramePuts.v0 an ao ap aq ar au av aw ax ay aa ab ac ad ae af ag ah ai aj ak al am), .slice a1 l1.length aI] w fun e w' => e = .returned (.bool true) ∧ Below w.heap.size w w' := by
 obtain ⟨k, h⟩ := P an ao ap aq ar au av aw ax ay aa ab ac ad ae af ag ah ai aj ak al am l1 w0_0 w0_1 w0_2 w0_3 w0_4 w0_5 w0_6 w0_7 w0_8 w0_9 w0_10 w0_11 w0_12 w0_13 w0_14 w0_15 w0_16 w0_17 w0_18 w0_19 w0_20 w0_21 w0_22 hm1 y1 hw1
 refine (carillonlaw09_FramePuts.calls k an ao ap aq ar au av aw ax ay aa ab ac ad ae af ag ah ai aj ak al am a1 aI l1 w hr1 hc1 h).mono ?_
 rintro e w' ⟨rfl, hd⟩
 exact ⟨rfl, hd⟩
end Go.Proofs.Ytiomlbkakiienaa.P
