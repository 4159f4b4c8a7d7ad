/- Functions and loops of the given program as Lean functions, and that the code comes to what they say: written by this session's own program; Lean checks it. -/
import Derived.Test.YtpoocfapmgmfkaaZzPx0
import Derived.Test.YtpoocfapmgmfkaaZzPx1
import Derived.Test.YtpoocfapmgmfkaaZzPx2
namespace Go.Proofs.Ytpoocfapmgmfkaa.P
open Go.RowKit Go.Proofs.YtpoocfapmgmfkaaW.PrintWords Go.Proofs.YtpoocfapmgmfkaaW.PrintLast Go.Proofs.YtpoocfapmgmfkaaW.PrintMore
attribute [local go_sem] max2_int min2_int max_two min_two max_three min_three max_four min_four   -- for this text's walks alone
set_option linter.unusedVariables false
set_option linter.unusedSimpArgs false
/-! ### ident_Put: function 22 -/
def ident_Put.f (l0 : List Int) (a1_0 : Int) (a1_1 : Int) : Option (List Int) := (octets_PutId.f l0 a1_0).bind fun t120 => ((octets_Put.f t120 a1_1 2).bind fun t123 => (some t123))
def ident_Put.T1 : Bool × List (List Nat × List Nat) := (true, [([], []), ([], []), ([1], [1]), ([0, 2], [0, 2]), ([], []), ([4], [4]), ([3, 5, 3], [3, 5]), ([6, 6, 0, 1, 2, 3, 4, 5, 6], [6])])
def ident_Put.B1 : List Nat := [0, 0, 2, 7, 0, 16, 63, 127]
theorem ident_Put.tab1 : rtab .any (opsOf Try.f22 1) = ident_Put.T1 := by kernel_rfl
theorem ident_Put.bits1 : waitsOk ident_Put.T1.2 ident_Put.B1 = true := by kernel_rfl
set_option maxHeartbeats 8000000 in
set_option maxRecDepth 100000 in
theorem ident_Put.calls (A0 : Option Addr) (c0 : Nat) (l0 : List Int) (a1_0 : Int) (a1_1 : Int) (r : List Int) (w : World) (hr0 : Kd.C (Kd.int .u8) w A0 l0.length l0) (hc0 : l0.length ≤ c0) (h : ident_Put.f l0 a1_0 a1_1 = some r) :
    Calls Try.prog 22 #[.slice A0 l0.length c0, .agg #[.int .u64 a1_0, .int .i64 a1_1]] w fun e w' => ∃ v0_ : Value, e = .returned (v0_) ∧ Kd.R (Kd.int .u8) 5 w' w.heap.size (fun _ => True) v0_ r ∧ Below w.heap.size w w' := by
  have hu25 := Try.underlying25
  have HR0 := Aside0.mk hr0
  have HC0 := Aside0.mk hc0
  clear hr0 hc0
  have HB := Aside0.mk (Below.refl w.heap.size w)
  have H : ((octets_PutId.f l0 a1_0).bind fun t120 => ((octets_Put.f t120 a1_1 2).bind fun t123 => (some t123))) = some r := h
  clear h
  replace H := Option.bind_eq_some_iff.mp H
  obtain ⟨t120, A30, H⟩ := H
  replace H : ((octets_Put.f t120 a1_1 2).bind fun t123 => (some t123)) = some r := H
  have A3 := Aside0.mk A30
  clear A30
  replace H := Option.bind_eq_some_iff.mp H
  obtain ⟨t123, A40, H⟩ := H
  replace H : (some t123) = some r := H
  have A4 := Aside0.mk A40
  clear A40
  obtain rfl := Option.some.inj H
  go_enter Try.func22, Try.ntmps22
  try go_wp2_with (first | ((with_reducible refine gate_dst (N := 3) rfl ?_); refine box_event ?hg (N := 3) ?hd (cs := #[.int .u64 a1_0, .int .i64 a1_1]) (t := 25) ?hr ?_; (case hd => rfl); (case hg => rfl); (case hr => first | (go_simp; done) | (go_simp; rfl)); intro gb119 hg w5 hbox hb; have n0_ := Aside0.mk (below_step (by repeat (first | (with_reducible first | exact HB.out | apply below_alloc | apply pw_below_drewN | apply below_drew1) | exact HB.out)) hb); have n1_ := Aside0.mk (hbox); have n2_ := Aside0.mk ((by rw [hg]; exact (below_size (by repeat (first | (with_reducible first | exact HB.out | apply below_alloc | apply pw_below_drewN | apply below_drew1) | exact HB.out))) : w.heap.size ≤ gb119)); have n3_ := Aside0.mk ((by rw [hg]; exact (below_size (by repeat (first | (with_reducible first | exact HB.out | apply below_alloc | apply pw_below_drewN | apply below_drew1) | exact HB.out))) : w.heap.size ≤ gb119)); clear HB; have HB := n0_; have BK119 := n1_; have GW119 := n2_; have GE119 := n3_; clear n0_ n1_ n2_ n3_; clear hb hbox hg))
  have n0_ := Aside0.mk (blk_drew BK119.out)
  have n1_ := Aside0.mk (below_drew1 HB.out)
  clear BK119
  clear HB
  have BK119 := n0_
  have HB := n1_
  clear n0_ n1_
  refine start_ (n := 8) (S := fun w' => w'.cell? ⟨gb119, 0, none⟩ = some (.int .u64 a1_0) ∧ w'.cell? ⟨gb119, 1, none⟩ = some (.int .i64 a1_1)) (ds := []) #[false, false, false, false, false, false, false, false] (by kernel_rfl) rfl rfl ⟨(blk_cell BK119.out 0).trans rfl, (blk_cell BK119.out 1).trans rfl⟩ (fun hHeld => ?_); refine with_tabW ident_Put.tab1 ident_Put.bits1 (fun HT_ HW_ => ?_)
  generalize w5.drew = w6 at BK119 HB hHeld ⊢
  refine pure_ (i := 0) (N := some 5) (v := ?_) (a' := ?_) #[true, false, false, false, false, false, false, false] rfl rfl (any_of HT_.out (by kernel_rfl)) (fun _ _ _ h => h) (Or.inl ⟨by rfl, ?_⟩) ?_ ?_
  rotate_left
  · intro w'
    go_simp
    with_reducible rfl
  rotate_left
  · simp only [Act.put, List.setIfInBounds_toArray, List.set_cons_zero, List.set_cons_succ, i64_w, i32_w]
    rfl
  refine pure_ (i := 1) (N := some 6) (v := ?_) (a' := ?_) #[true, true, false, false, false, false, false, false] rfl rfl (any_of HT_.out (by kernel_rfl)) (fun _ _ _ h => h) (Or.inl ⟨by rfl, ?_⟩) ?_ ?_
  rotate_left
  · intro w'
    go_simp
    with_reducible rfl
  rotate_left
  · simp only [Act.put, List.setIfInBounds_toArray, List.set_cons_zero, List.set_cons_succ, i64_w, i32_w]
    rfl
  refine pure_ (i := 4) (N := some 9) (v := ?_) (a' := ?_) #[true, true, false, false, true, false, false, false] rfl rfl (any_of HT_.out (by kernel_rfl)) (fun _ _ _ h => h) (Or.inl ⟨by rfl, ?_⟩) ?_ ?_
  rotate_left
  · intro w'
    go_simp
    with_reducible rfl
  rotate_left
  · simp only [Act.put, List.setIfInBounds_toArray, List.set_cons_zero, List.set_cons_succ, i64_w, i32_w]
    rfl
  refine take_ (i := 2) (N := some 7) (v := ?_) (a' := ?_) #[true, true, true, false, true, false, false, false] rfl rfl (take_ofW HT_.out HW_.out (by kernel_rfl)) (fun _ _ _ h => h) (Or.inl ⟨by rfl, ?_⟩) hHeld ?_ ?_
  rotate_left
  · rintro w' ⟨s0, s1⟩
    go_simp
    with_reducible rfl
  rotate_left
  · simp only [Act.put, List.setIfInBounds_toArray, List.set_cons_zero, List.set_cons_succ, i64_w, i32_w]
    rfl
  refine take_ (i := 5) (N := some 10) (v := ?_) (a' := ?_) #[true, true, true, false, true, true, false, false] rfl rfl (take_ofW HT_.out HW_.out (by kernel_rfl)) (fun _ _ _ h => h) (Or.inl ⟨by rfl, ?_⟩) hHeld ?_ ?_
  rotate_left
  · rintro w' ⟨s0, s1⟩
    go_simp
    with_reducible rfl
  rotate_left
  · simp only [Act.put, List.setIfInBounds_toArray, List.set_cons_zero, List.set_cons_succ, i64_w, i32_w]
    rfl
  refine one_ (i := 3) (N := some 8) #[true, true, true, true, true, true, false, false] rfl rfl (one_of HT_.out (by kernel_rfl)) (by decide) (fun K hK => ?_)
  refine goes_ Try.func25 (by kernel_rfl) rfl #[.slice A0 l0.length c0, .int .u64 a1_0] (by rfl) rfl rfl (by (try simp only [List.map_toArray, List.map_cons, List.map_nil]); first | done | rfl | (simp only [List.length_drop, List.length_take]; rfl)) ?_
  with_reducible refine (octets_PutId.calls _ _ l0 a1_0 t120 _ ?side1 ?side2 A3.out).mono ?_
  (case side1 => repeat (first | exact (Kd.C_below HR0.out HB.out) | (with_reducible refine Kd.C_alloc ?_ _) | (with_reducible refine Kd.C_drewN ?_ _) | (with_reducible refine Kd.C_drew ?_)))
  (case side2 => exact HC0.out)
  rintro e w7 ⟨v121, rfl, ho0, hb⟩
  refine ⟨_, rfl, ?_⟩
  have n0_ := Aside0.mk (Kd.R_lower ho0 (below_size (by repeat (first | (with_reducible first | exact HB.out | apply below_alloc | apply pw_below_drewN | apply below_drew1 | refine below_set ?_ GE119.out) | exact HB.out))))
  have n1_ := Aside0.mk (blk_below (g := gb119) (o := .cells #[.int .u64 a1_0, .int .i64 a1_1] 25 (0, 0)) (by (with_reducible repeat (first | refine blk_drewN ?_ _ | refine blk_drew ?_ | refine blk_alloc ?_ _)); exact BK119.out) hb)
  have n2_ := Aside0.mk (below_step (by repeat (first | (with_reducible first | exact HB.out | apply below_alloc | apply pw_below_drewN | apply below_drew1 | refine below_set ?_ GE119.out) | exact HB.out)) hb)
  clear BK119
  clear HB
  have HO122 := n0_
  have BK119 := n1_
  have HB := n2_
  clear n0_ n1_ n2_
  (try clear hb)
  (try clear hb2)
  (try clear hk)
  (try clear hi)
  (try clear ho0)
  obtain ⟨Ao8, co8, eo8⟩ := Kd.R_slice HO122.out
  (first | subst eo8 | (injection eo8 with f1_ f2_ f3_; have f4_ := f1_.symm; have f5_ := f3_.symm; clear f1_ f2_ f3_; subst f4_; subst f5_))
  refine hK.out _ _ ⟨(blk_cell BK119.out 0).trans rfl, (blk_cell BK119.out 1).trans rfl⟩ (fun hHeld => ?_)
  clear hK K
  refine norm_ (a' := ?_) ?_ ?_
  rotate_left
  · show Act.put _ (some 8) _ = _
    simp only [Act.put, List.setIfInBounds_toArray, List.set_cons_zero, List.set_cons_succ, i64_w, i32_w]
    rfl
  refine one_ (i := 6) (N := some 11) #[true, true, true, true, true, true, true, false] rfl rfl (one_of HT_.out (by kernel_rfl)) (by decide) (fun K hK => ?_)
  refine goes_ Try.func23 (by kernel_rfl) rfl #[.slice Ao8 t120.length co8, .int .i64 a1_1, .int .i64 2] (by rfl) rfl rfl (by (try simp only [List.map_toArray, List.map_cons, List.map_nil]); first | done | rfl | (simp only [List.length_drop, List.length_take]; rfl)) ?_
  with_reducible refine (octets_Put.calls _ _ t120 a1_1 2 t123 _ ?side1 ?side2 A4.out).mono ?_
  (case side1 => repeat (first | exact (Kd.R_reads' HO122.out).2.2 | (with_reducible refine Kd.C_alloc ?_ _) | (with_reducible refine Kd.C_drewN ?_ _) | (with_reducible refine Kd.C_drew ?_)))
  (case side2 => exact (Kd.R_reads' HO122.out).2.1)
  rintro e w9 ⟨v124, rfl, ho0, hb⟩
  refine ⟨_, rfl, ?_⟩
  have n0_ := Aside0.mk (Kd.R_elder' (by (with_reducible repeat (first | apply Kd.R_alloc | apply Kd.R_drewN | apply Kd.R_drew)); exact HO122.out) (Kd.R_base ho0) hb)
  have n1_ := Aside0.mk (Kd.R_lower (Kd.R_new' ho0 (Kd.R_lt (by (with_reducible repeat (first | apply Kd.R_alloc | apply Kd.R_drewN | apply Kd.R_drew)); exact HO122.out))) (below_size (by repeat (first | (with_reducible first | exact HB.out | apply below_alloc | apply pw_below_drewN | apply below_drew1 | refine below_set ?_ GE119.out) | exact HB.out))))
  have n2_ := Aside0.mk (blk_below (g := gb119) (o := .cells #[.int .u64 a1_0, .int .i64 a1_1] 25 (0, 0)) (by (with_reducible repeat (first | refine blk_drewN ?_ _ | refine blk_drew ?_ | refine blk_alloc ?_ _)); exact BK119.out) hb)
  have n3_ := Aside0.mk (below_step (by repeat (first | (with_reducible first | exact HB.out | apply below_alloc | apply pw_below_drewN | apply below_drew1 | refine below_set ?_ GE119.out) | exact HB.out)) hb)
  clear HO122
  clear BK119
  clear HB
  have HO122 := n0_
  have HO125 := n1_
  have BK119 := n2_
  have HB := n3_
  clear n0_ n1_ n2_ n3_
  (try clear hb)
  (try clear hb2)
  (try clear hk)
  (try clear hi)
  (try clear ho0)
  refine hK.out _ _ ⟨(blk_cell BK119.out 0).trans rfl, (blk_cell BK119.out 1).trans rfl⟩ (fun hHeld => ?_)
  clear hK K
  refine norm_ (a' := ?_) ?_ ?_
  rotate_left
  · show Act.put _ (some 11) _ = _
    simp only [Act.put, List.setIfInBounds_toArray, List.set_cons_zero, List.set_cons_succ, i64_w, i32_w]
    rfl
  refine pure_ (i := 7) (N := some 4) (v := ?_) (a' := ?_) #[true, true, true, true, true, true, true, true] rfl rfl (any_of HT_.out (by kernel_rfl)) (fun _ _ _ h => h) (Or.inl ⟨by rfl, ?_⟩) ?_ ?_
  rotate_left
  · intro w'
    go_simp
    with_reducible rfl
  rotate_left
  · simp only [Act.put, List.setIfInBounds_toArray, List.set_cons_zero, List.set_cons_succ, i64_w, i32_w]
    rfl
  refine done_ (done_of HT_.out (by kernel_rfl)) ?_
  try go_wp2
  all_goals
    go_ret
    exact ⟨_, by first | rfl | (simp [errW_none, errW_some] <;> rfl) | (simp [*, errW_none, errW_some] <;> rfl), by (with_reducible repeat (first | apply Kd.R_alloc | apply Kd.R_drewN | apply Kd.R_drew)); exact Kd.R_mono HO125.out (fun _ hk => trivial), by repeat (first | (with_reducible first | exact HB.out | apply below_alloc | apply pw_below_drewN | apply below_drew1 | refine below_set ?_ GE119.out) | exact HB.out)⟩
/-! ### quality_Put: function 24 -/
def quality_Put.f (l0 : List Int) (a1_0 : Int) (a1_1 : Int) (a1_2 : Int) : Option (List Int) := (octets_Put.f l0 a1_0 1).bind fun t127 => ((octets_Put.f t127 a1_1 1).bind fun t130 => ((octets_Put.f t130 a1_2 2).bind fun t133 => (some t133)))
def quality_Put.T1 : Bool × List (List Nat × List Nat) := (true, [([], []), ([], []), ([1], [1]), ([0, 2], [0, 2]), ([], []), ([4], [4]), ([3, 5, 3], [3, 5]), ([], []), ([7], [7]), ([6, 8, 6], [6, 8]), ([9, 9, 0, 1, 2, 3, 4, 5, 6, 7, 8, 9], [9])])
def quality_Put.B1 : List Nat := [0, 0, 2, 7, 0, 16, 63, 0, 128, 511, 1023]
theorem quality_Put.tab1 : rtab .any (opsOf Try.f24 1) = quality_Put.T1 := by kernel_rfl
theorem quality_Put.bits1 : waitsOk quality_Put.T1.2 quality_Put.B1 = true := by kernel_rfl
set_option maxHeartbeats 8000000 in
set_option maxRecDepth 100000 in
theorem quality_Put.calls (A0 : Option Addr) (c0 : Nat) (l0 : List Int) (a1_0 : Int) (a1_1 : Int) (a1_2 : Int) (r : List Int) (w : World) (hr0 : Kd.C (Kd.int .u8) w A0 l0.length l0) (hc0 : l0.length ≤ c0) (h : quality_Put.f l0 a1_0 a1_1 a1_2 = some r) :
    Calls Try.prog 24 #[.slice A0 l0.length c0, .agg #[.int .i64 a1_0, .int .i64 a1_1, .int .i64 a1_2]] w fun e w' => ∃ v0_ : Value, e = .returned (v0_) ∧ Kd.R (Kd.int .u8) 5 w' w.heap.size (fun _ => True) v0_ r ∧ Below w.heap.size w w' := by
  have hu27 := Try.underlying27
  have HR0 := Aside0.mk hr0
  have HC0 := Aside0.mk hc0
  clear hr0 hc0
  have HB := Aside0.mk (Below.refl w.heap.size w)
  have H : ((octets_Put.f l0 a1_0 1).bind fun t127 => ((octets_Put.f t127 a1_1 1).bind fun t130 => ((octets_Put.f t130 a1_2 2).bind fun t133 => (some t133)))) = some r := h
  clear h
  replace H := Option.bind_eq_some_iff.mp H
  obtain ⟨t127, A30, H⟩ := H
  replace H : ((octets_Put.f t127 a1_1 1).bind fun t130 => ((octets_Put.f t130 a1_2 2).bind fun t133 => (some t133))) = some r := H
  have A3 := Aside0.mk A30
  clear A30
  replace H := Option.bind_eq_some_iff.mp H
  obtain ⟨t130, A40, H⟩ := H
  replace H : ((octets_Put.f t130 a1_2 2).bind fun t133 => (some t133)) = some r := H
  have A4 := Aside0.mk A40
  clear A40
  replace H := Option.bind_eq_some_iff.mp H
  obtain ⟨t133, A50, H⟩ := H
  replace H : (some t133) = some r := H
  have A5 := Aside0.mk A50
  clear A50
  obtain rfl := Option.some.inj H
  go_enter Try.func24, Try.ntmps24
  try go_wp2_with (first | ((with_reducible refine gate_dst (N := 3) rfl ?_); refine box_event ?hg (N := 3) ?hd (cs := #[.int .i64 a1_0, .int .i64 a1_1, .int .i64 a1_2]) (t := 27) ?hr ?_; (case hd => rfl); (case hg => rfl); (case hr => first | (go_simp; done) | (go_simp; rfl)); intro gb126 hg w6 hbox hb; have n0_ := Aside0.mk (below_step (by repeat (first | (with_reducible first | exact HB.out | apply below_alloc | apply pw_below_drewN | apply below_drew1) | exact HB.out)) hb); have n1_ := Aside0.mk (hbox); have n2_ := Aside0.mk ((by rw [hg]; exact (below_size (by repeat (first | (with_reducible first | exact HB.out | apply below_alloc | apply pw_below_drewN | apply below_drew1) | exact HB.out))) : w.heap.size ≤ gb126)); have n3_ := Aside0.mk ((by rw [hg]; exact (below_size (by repeat (first | (with_reducible first | exact HB.out | apply below_alloc | apply pw_below_drewN | apply below_drew1) | exact HB.out))) : w.heap.size ≤ gb126)); clear HB; have HB := n0_; have BK126 := n1_; have GW126 := n2_; have GE126 := n3_; clear n0_ n1_ n2_ n3_; clear hb hbox hg))
  have n0_ := Aside0.mk (blk_drew BK126.out)
  have n1_ := Aside0.mk (below_drew1 HB.out)
  clear BK126
  clear HB
  have BK126 := n0_
  have HB := n1_
  clear n0_ n1_
  refine start_ (n := 11) (S := fun w' => w'.cell? ⟨gb126, 0, none⟩ = some (.int .i64 a1_0) ∧ w'.cell? ⟨gb126, 1, none⟩ = some (.int .i64 a1_1) ∧ w'.cell? ⟨gb126, 2, none⟩ = some (.int .i64 a1_2)) (ds := []) #[false, false, false, false, false, false, false, false, false, false, false] (by kernel_rfl) rfl rfl ⟨(blk_cell BK126.out 0).trans rfl, (blk_cell BK126.out 1).trans rfl, (blk_cell BK126.out 2).trans rfl⟩ (fun hHeld => ?_); refine with_tabW quality_Put.tab1 quality_Put.bits1 (fun HT_ HW_ => ?_)
  generalize w6.drew = w7 at BK126 HB hHeld ⊢
  refine pure_ (i := 0) (N := some 5) (v := ?_) (a' := ?_) #[true, false, false, false, false, false, false, false, false, false, false] rfl rfl (any_of HT_.out (by kernel_rfl)) (fun _ _ _ h => h) (Or.inl ⟨by rfl, ?_⟩) ?_ ?_
  rotate_left
  · intro w'
    go_simp
    with_reducible rfl
  rotate_left
  · simp only [Act.put, List.setIfInBounds_toArray, List.set_cons_zero, List.set_cons_succ, i64_w, i32_w]
    rfl
  refine pure_ (i := 1) (N := some 6) (v := ?_) (a' := ?_) #[true, true, false, false, false, false, false, false, false, false, false] rfl rfl (any_of HT_.out (by kernel_rfl)) (fun _ _ _ h => h) (Or.inl ⟨by rfl, ?_⟩) ?_ ?_
  rotate_left
  · intro w'
    go_simp
    with_reducible rfl
  rotate_left
  · simp only [Act.put, List.setIfInBounds_toArray, List.set_cons_zero, List.set_cons_succ, i64_w, i32_w]
    rfl
  refine pure_ (i := 4) (N := some 9) (v := ?_) (a' := ?_) #[true, true, false, false, true, false, false, false, false, false, false] rfl rfl (any_of HT_.out (by kernel_rfl)) (fun _ _ _ h => h) (Or.inl ⟨by rfl, ?_⟩) ?_ ?_
  rotate_left
  · intro w'
    go_simp
    with_reducible rfl
  rotate_left
  · simp only [Act.put, List.setIfInBounds_toArray, List.set_cons_zero, List.set_cons_succ, i64_w, i32_w]
    rfl
  refine pure_ (i := 7) (N := some 12) (v := ?_) (a' := ?_) #[true, true, false, false, true, false, false, true, false, false, false] rfl rfl (any_of HT_.out (by kernel_rfl)) (fun _ _ _ h => h) (Or.inl ⟨by rfl, ?_⟩) ?_ ?_
  rotate_left
  · intro w'
    go_simp
    with_reducible rfl
  rotate_left
  · simp only [Act.put, List.setIfInBounds_toArray, List.set_cons_zero, List.set_cons_succ, i64_w, i32_w]
    rfl
  refine take_ (i := 2) (N := some 7) (v := ?_) (a' := ?_) #[true, true, true, false, true, false, false, true, false, false, false] rfl rfl (take_ofW HT_.out HW_.out (by kernel_rfl)) (fun _ _ _ h => h) (Or.inl ⟨by rfl, ?_⟩) hHeld ?_ ?_
  rotate_left
  · rintro w' ⟨s0, s1, s2⟩
    go_simp
    with_reducible rfl
  rotate_left
  · simp only [Act.put, List.setIfInBounds_toArray, List.set_cons_zero, List.set_cons_succ, i64_w, i32_w]
    rfl
  refine take_ (i := 5) (N := some 10) (v := ?_) (a' := ?_) #[true, true, true, false, true, true, false, true, false, false, false] rfl rfl (take_ofW HT_.out HW_.out (by kernel_rfl)) (fun _ _ _ h => h) (Or.inl ⟨by rfl, ?_⟩) hHeld ?_ ?_
  rotate_left
  · rintro w' ⟨s0, s1, s2⟩
    go_simp
    with_reducible rfl
  rotate_left
  · simp only [Act.put, List.setIfInBounds_toArray, List.set_cons_zero, List.set_cons_succ, i64_w, i32_w]
    rfl
  refine take_ (i := 8) (N := some 13) (v := ?_) (a' := ?_) #[true, true, true, false, true, true, false, true, true, false, false] rfl rfl (take_ofW HT_.out HW_.out (by kernel_rfl)) (fun _ _ _ h => h) (Or.inl ⟨by rfl, ?_⟩) hHeld ?_ ?_
  rotate_left
  · rintro w' ⟨s0, s1, s2⟩
    go_simp
    with_reducible rfl
  rotate_left
  · simp only [Act.put, List.setIfInBounds_toArray, List.set_cons_zero, List.set_cons_succ, i64_w, i32_w]
    rfl
  refine one_ (i := 3) (N := some 8) #[true, true, true, true, true, true, false, true, true, false, false] rfl rfl (one_of HT_.out (by kernel_rfl)) (by decide) (fun K hK => ?_)
  refine goes_ Try.func23 (by kernel_rfl) rfl #[.slice A0 l0.length c0, .int .i64 a1_0, .int .i64 1] (by rfl) rfl rfl (by (try simp only [List.map_toArray, List.map_cons, List.map_nil]); first | done | rfl | (simp only [List.length_drop, List.length_take]; rfl)) ?_
  with_reducible refine (octets_Put.calls _ _ l0 a1_0 1 t127 _ ?side1 ?side2 A3.out).mono ?_
  (case side1 => repeat (first | exact (Kd.C_below HR0.out HB.out) | (with_reducible refine Kd.C_alloc ?_ _) | (with_reducible refine Kd.C_drewN ?_ _) | (with_reducible refine Kd.C_drew ?_)))
  (case side2 => exact HC0.out)
  rintro e w8 ⟨v128, rfl, ho0, hb⟩
  refine ⟨_, rfl, ?_⟩
  have n0_ := Aside0.mk (Kd.R_lower ho0 (below_size (by repeat (first | (with_reducible first | exact HB.out | apply below_alloc | apply pw_below_drewN | apply below_drew1 | refine below_set ?_ GE126.out) | exact HB.out))))
  have n1_ := Aside0.mk (blk_below (g := gb126) (o := .cells #[.int .i64 a1_0, .int .i64 a1_1, .int .i64 a1_2] 27 (0, 0)) (by (with_reducible repeat (first | refine blk_drewN ?_ _ | refine blk_drew ?_ | refine blk_alloc ?_ _)); exact BK126.out) hb)
  have n2_ := Aside0.mk (below_step (by repeat (first | (with_reducible first | exact HB.out | apply below_alloc | apply pw_below_drewN | apply below_drew1 | refine below_set ?_ GE126.out) | exact HB.out)) hb)
  clear BK126
  clear HB
  have HO129 := n0_
  have BK126 := n1_
  have HB := n2_
  clear n0_ n1_ n2_
  (try clear hb)
  (try clear hb2)
  (try clear hk)
  (try clear hi)
  (try clear ho0)
  obtain ⟨Ao9, co9, eo9⟩ := Kd.R_slice HO129.out
  (first | subst eo9 | (injection eo9 with f1_ f2_ f3_; have f4_ := f1_.symm; have f5_ := f3_.symm; clear f1_ f2_ f3_; subst f4_; subst f5_))
  refine hK.out _ _ ⟨(blk_cell BK126.out 0).trans rfl, (blk_cell BK126.out 1).trans rfl, (blk_cell BK126.out 2).trans rfl⟩ (fun hHeld => ?_)
  clear hK K
  refine norm_ (a' := ?_) ?_ ?_
  rotate_left
  · show Act.put _ (some 8) _ = _
    simp only [Act.put, List.setIfInBounds_toArray, List.set_cons_zero, List.set_cons_succ, i64_w, i32_w]
    rfl
  refine one_ (i := 6) (N := some 11) #[true, true, true, true, true, true, true, true, true, false, false] rfl rfl (one_of HT_.out (by kernel_rfl)) (by decide) (fun K hK => ?_)
  refine goes_ Try.func23 (by kernel_rfl) rfl #[.slice Ao9 t127.length co9, .int .i64 a1_1, .int .i64 1] (by rfl) rfl rfl (by (try simp only [List.map_toArray, List.map_cons, List.map_nil]); first | done | rfl | (simp only [List.length_drop, List.length_take]; rfl)) ?_
  with_reducible refine (octets_Put.calls _ _ t127 a1_1 1 t130 _ ?side1 ?side2 A4.out).mono ?_
  (case side1 => repeat (first | exact (Kd.R_reads' HO129.out).2.2 | (with_reducible refine Kd.C_alloc ?_ _) | (with_reducible refine Kd.C_drewN ?_ _) | (with_reducible refine Kd.C_drew ?_)))
  (case side2 => exact (Kd.R_reads' HO129.out).2.1)
  rintro e w10 ⟨v131, rfl, ho0, hb⟩
  refine ⟨_, rfl, ?_⟩
  have n0_ := Aside0.mk (Kd.R_elder' (by (with_reducible repeat (first | apply Kd.R_alloc | apply Kd.R_drewN | apply Kd.R_drew)); exact HO129.out) (Kd.R_base ho0) hb)
  have n1_ := Aside0.mk (Kd.R_lower (Kd.R_new' ho0 (Kd.R_lt (by (with_reducible repeat (first | apply Kd.R_alloc | apply Kd.R_drewN | apply Kd.R_drew)); exact HO129.out))) (below_size (by repeat (first | (with_reducible first | exact HB.out | apply below_alloc | apply pw_below_drewN | apply below_drew1 | refine below_set ?_ GE126.out) | exact HB.out))))
  have n2_ := Aside0.mk (blk_below (g := gb126) (o := .cells #[.int .i64 a1_0, .int .i64 a1_1, .int .i64 a1_2] 27 (0, 0)) (by (with_reducible repeat (first | refine blk_drewN ?_ _ | refine blk_drew ?_ | refine blk_alloc ?_ _)); exact BK126.out) hb)
  have n3_ := Aside0.mk (below_step (by repeat (first | (with_reducible first | exact HB.out | apply below_alloc | apply pw_below_drewN | apply below_drew1 | refine below_set ?_ GE126.out) | exact HB.out)) hb)
  clear HO129
  clear BK126
  clear HB
  have HO129 := n0_
  have HO132 := n1_
  have BK126 := n2_
  have HB := n3_
  clear n0_ n1_ n2_ n3_
  (try clear hb)
  (try clear hb2)
  (try clear hk)
  (try clear hi)
  (try clear ho0)
  obtain ⟨Ao11, co11, eo11⟩ := Kd.R_slice HO132.out
  (first | subst eo11 | (injection eo11 with f1_ f2_ f3_; have f4_ := f1_.symm; have f5_ := f3_.symm; clear f1_ f2_ f3_; subst f4_; subst f5_))
  refine hK.out _ _ ⟨(blk_cell BK126.out 0).trans rfl, (blk_cell BK126.out 1).trans rfl, (blk_cell BK126.out 2).trans rfl⟩ (fun hHeld => ?_)
  clear hK K
  refine norm_ (a' := ?_) ?_ ?_
  rotate_left
  · show Act.put _ (some 11) _ = _
    simp only [Act.put, List.setIfInBounds_toArray, List.set_cons_zero, List.set_cons_succ, i64_w, i32_w]
    rfl
  refine one_ (i := 9) (N := some 14) #[true, true, true, true, true, true, true, true, true, true, false] rfl rfl (one_of HT_.out (by kernel_rfl)) (by decide) (fun K hK => ?_)
  refine goes_ Try.func23 (by kernel_rfl) rfl #[.slice Ao11 t130.length co11, .int .i64 a1_2, .int .i64 2] (by rfl) rfl rfl (by (try simp only [List.map_toArray, List.map_cons, List.map_nil]); first | done | rfl | (simp only [List.length_drop, List.length_take]; rfl)) ?_
  with_reducible refine (octets_Put.calls _ _ t130 a1_2 2 t133 _ ?side1 ?side2 A5.out).mono ?_
  (case side1 => repeat (first | exact (Kd.R_reads' HO132.out).2.2 | (with_reducible refine Kd.C_alloc ?_ _) | (with_reducible refine Kd.C_drewN ?_ _) | (with_reducible refine Kd.C_drew ?_)))
  (case side2 => exact (Kd.R_reads' HO132.out).2.1)
  rintro e w12 ⟨v134, rfl, ho0, hb⟩
  refine ⟨_, rfl, ?_⟩
  have n0_ := Aside0.mk (Kd.R_elder' (by (with_reducible repeat (first | apply Kd.R_alloc | apply Kd.R_drewN | apply Kd.R_drew)); exact HO129.out) (Kd.R_base ho0) hb)
  have n1_ := Aside0.mk (Kd.R_elder' (by (with_reducible repeat (first | apply Kd.R_alloc | apply Kd.R_drewN | apply Kd.R_drew)); exact HO132.out) (Kd.R_base ho0) hb)
  have n2_ := Aside0.mk (Kd.R_lower (Kd.R_new' (Kd.R_new' ho0 (Kd.R_lt (by (with_reducible repeat (first | apply Kd.R_alloc | apply Kd.R_drewN | apply Kd.R_drew)); exact HO129.out))) (Kd.R_lt (by (with_reducible repeat (first | apply Kd.R_alloc | apply Kd.R_drewN | apply Kd.R_drew)); exact HO132.out))) (below_size (by repeat (first | (with_reducible first | exact HB.out | apply below_alloc | apply pw_below_drewN | apply below_drew1 | refine below_set ?_ GE126.out) | exact HB.out))))
  have n3_ := Aside0.mk (blk_below (g := gb126) (o := .cells #[.int .i64 a1_0, .int .i64 a1_1, .int .i64 a1_2] 27 (0, 0)) (by (with_reducible repeat (first | refine blk_drewN ?_ _ | refine blk_drew ?_ | refine blk_alloc ?_ _)); exact BK126.out) hb)
  have n4_ := Aside0.mk (below_step (by repeat (first | (with_reducible first | exact HB.out | apply below_alloc | apply pw_below_drewN | apply below_drew1 | refine below_set ?_ GE126.out) | exact HB.out)) hb)
  clear HO129
  clear HO132
  clear BK126
  clear HB
  have HO129 := n0_
  have HO132 := n1_
  have HO135 := n2_
  have BK126 := n3_
  have HB := n4_
  clear n0_ n1_ n2_ n3_ n4_
  (try clear hb)
  (try clear hb2)
  (try clear hk)
  (try clear hi)
  (try clear ho0)
  refine hK.out _ _ ⟨(blk_cell BK126.out 0).trans rfl, (blk_cell BK126.out 1).trans rfl, (blk_cell BK126.out 2).trans rfl⟩ (fun hHeld => ?_)
  clear hK K
  refine norm_ (a' := ?_) ?_ ?_
  rotate_left
  · show Act.put _ (some 14) _ = _
    simp only [Act.put, List.setIfInBounds_toArray, List.set_cons_zero, List.set_cons_succ, i64_w, i32_w]
    rfl
  refine pure_ (i := 10) (N := some 4) (v := ?_) (a' := ?_) #[true, true, true, true, true, true, true, true, true, true, true] rfl rfl (any_of HT_.out (by kernel_rfl)) (fun _ _ _ h => h) (Or.inl ⟨by rfl, ?_⟩) ?_ ?_
  rotate_left
  · intro w'
    go_simp
    with_reducible rfl
  rotate_left
  · simp only [Act.put, List.setIfInBounds_toArray, List.set_cons_zero, List.set_cons_succ, i64_w, i32_w]
    rfl
  refine done_ (done_of HT_.out (by kernel_rfl)) ?_
  try go_wp2
  all_goals
    go_ret
    exact ⟨_, by first | rfl | (simp [errW_none, errW_some] <;> rfl) | (simp [*, errW_none, errW_some] <;> rfl), by (with_reducible repeat (first | apply Kd.R_alloc | apply Kd.R_drewN | apply Kd.R_drew)); exact Kd.R_mono HO135.out (fun _ hk => trivial), by repeat (first | (with_reducible first | exact HB.out | apply below_alloc | apply pw_below_drewN | apply below_drew1 | refine below_set ?_ GE126.out) | exact HB.out)⟩
/-! ### body_Put: function 8: by our own printer -/
def body_Put.j3 (k : Nat) (y3_6 : List Int) : Option (List Int × Bool) := some (y3_6, true)
def body_Put.j2 (k : Nat) (x2_3_0 x2_3_1 x2_3_2 x2_3_3 x2_3_4 x2_3_5 x2_3_6 x2_3_7 x2_3_8 x2_3_9 x2_3_10 x2_3_11 x2_3_12 x2_3_13 x2_3_14 x2_3_15 x2_3_16 x2_3_17 x2_3_18 x2_3_19 x2_3_20 x2_3_21 x2_3_22 : Int) (y2_6 : List Int) : Option (List Int × Bool) := if x2_3_0 = 2 then ((ident_Put.f y2_6 0 0).bind fun t2008 => (body_Put.j3 k t2008)) else (if x2_3_0 = 11 then ((octets_Put.f y2_6 x2_3_11 2).bind fun t2012 => ((octets_Put.f t2012 0 1).bind fun t2013 => ((octets_Put.f t2013 x2_3_12 1).bind fun t2014 => ((quality_Put.f t2014 x2_3_13 x2_3_14 x2_3_15).bind fun t2021 => ((octets_Put.f t2021 x2_3_16 1).bind fun t2022 => ((octets_PutId.f t2022 x2_3_17).bind fun t2028 => ((octets_Put.f t2028 x2_3_18 2).bind fun t2029 => ((octets_Put.f t2029 x2_3_19 1).bind fun t2030 => (body_Put.j3 k t2030))))))))) else (if x2_3_0 = 13 then ((octets_Put.f y2_6 x2_3_20 1).bind fun t2015 => ((octets_Put.f t2015 x2_3_21 1).bind fun t2016 => ((octets_Put.f t2016 x2_3_22 1).bind fun t2022 => ((octets_Put.f t2022 0 1).bind fun t2023 => (body_Put.j3 k t2023))))) else (body_Put.j3 k y2_6)))
def body_Put.j1 (k : Nat) (x1_3_0 x1_3_1 x1_3_2 x1_3_3 x1_3_4 x1_3_5 x1_3_6 x1_3_7 x1_3_8 x1_3_9 x1_3_10 x1_3_11 x1_3_12 x1_3_13 x1_3_14 x1_3_15 x1_3_16 x1_3_17 x1_3_18 x1_3_19 x1_3_20 x1_3_21 x1_3_22 : Int) (y1_6 : List Int) : Option (List Int × Bool) := (body_targeted.f x1_3_0).bind fun t1003 => (if t1003 = true then ((ident_Put.f y1_6 x1_3_9 x1_3_10).bind fun t1006 => (body_Put.j2 k x1_3_0 x1_3_1 x1_3_2 x1_3_3 x1_3_4 x1_3_5 x1_3_6 x1_3_7 x1_3_8 x1_3_9 x1_3_10 x1_3_11 x1_3_12 x1_3_13 x1_3_14 x1_3_15 x1_3_16 x1_3_17 x1_3_18 x1_3_19 x1_3_20 x1_3_21 x1_3_22 t1006)) else (body_Put.j2 k x1_3_0 x1_3_1 x1_3_2 x1_3_3 x1_3_4 x1_3_5 x1_3_6 x1_3_7 x1_3_8 x1_3_9 x1_3_10 x1_3_11 x1_3_12 x1_3_13 x1_3_14 x1_3_15 x1_3_16 x1_3_17 x1_3_18 x1_3_19 x1_3_20 x1_3_21 x1_3_22 y1_6))
def body_Put.f (k : Nat) (l0 : List Int) (a1_0 a1_1 a1_2 a1_3 a1_4 a1_5 a1_6 a1_7 a1_8 a1_9 a1_10 a1_11 a1_12 a1_13 a1_14 a1_15 a1_16 a1_17 a1_18 a1_19 a1_20 a1_21 a1_22 : Int) : Option (List Int × Bool) := (body_Check.f k a1_0 a1_1 a1_2 a1_3 a1_4 a1_5 a1_6 a1_7 a1_8 a1_9 a1_10 a1_11 a1_12 a1_13 a1_14 a1_15 a1_16 a1_17 a1_18 a1_19 a1_20 a1_21 a1_22).bind fun t7 => (if t7 = true then ((body_stamped.f a1_0).bind fun t15 => (if t15 = true then ((stamp_Put.f l0 a1_8).bind fun t18 => (body_Put.j1 k a1_0 a1_1 a1_2 a1_3 a1_4 a1_5 a1_6 a1_7 a1_8 a1_9 a1_10 a1_11 a1_12 a1_13 a1_14 a1_15 a1_16 a1_17 a1_18 a1_19 a1_20 a1_21 a1_22 t18)) else (body_Put.j1 k a1_0 a1_1 a1_2 a1_3 a1_4 a1_5 a1_6 a1_7 a1_8 a1_9 a1_10 a1_11 a1_12 a1_13 a1_14 a1_15 a1_16 a1_17 a1_18 a1_19 a1_20 a1_21 a1_22 l0))) else (some (l0, false)))
abbrev body_Put.v0 (x0 x1 x2 x3 x4 x5 x6 x7 x8 x9 x10 x11 x12 x13 x14 x15 x16 x17 x18 x19 x20 x21 x22 : Int) : Value := .agg #[.int .i64 x0, .int .i64 x1, .int .i64 x2, .int .i64 x3, .int .u64 x4, .int .i64 x5, .int .i64 x6, .int .i64 x7, .int .i64 x8, .int .u64 x9, .int .i64 x10, .int .i64 x11, .int .i64 x12, .int .i64 x13, .int .i64 x14, .int .i64 x15, .int .i64 x16, .int .u64 x17, .int .i64 x18, .int .i64 x19, .int .i64 x20, .int .i64 x21, .int .i64 x22]
abbrev body_Put.c1 (x0 x1 x2 x3 x4 x5 x6 x7 x8 x9 x10 x11 x12 x13 x14 x15 x16 x17 x18 x19 x20 x21 x22 : Int) : Array Value := #[.int .i64 x0, .int .i64 x1, .int .i64 x2, .int .i64 x3, .int .u64 x4, .int .i64 x5, .int .i64 x6, .int .i64 x7, .int .i64 x8, .int .u64 x9, .int .i64 x10, .int .i64 x11, .int .i64 x12, .int .i64 x13, .int .i64 x14, .int .i64 x15, .int .i64 x16, .int .u64 x17, .int .i64 x18, .int .i64 x19, .int .i64 x20, .int .i64 x21, .int .i64 x22]
open Go.Proofs.Ytpoocfapmgmfkaa.E in
set_option maxHeartbeats 60000000 in
set_option maxRecDepth 100000 in
theorem body_Put.calls (k : Nat) (A0 : Option Addr) (bB : Nat) (l0 : List Int) (ar bp bq br bs bt bu bv aS bw ay az aA aB aC aD aE aF aG aH aI aJ aK : Int) (r1 : List Int) (r2 : Bool) (w : World) (HR0 : Kd.C (Kd.int .u8) w A0 l0.length l0) (HC0 : l0.length ≤ bB) (h : body_Put.f k l0 ar bp bq br bs bt bu bv aS bw ay az aA aB aC aD aE aF aG aH aI aJ aK = some (r1, r2)) :
    Calls Try.prog 8 #[.slice A0 l0.length bB, .agg #[.int .i64 ar, .int .i64 bp, .int .i64 bq, .int .i64 br, .int .u64 bs, .int .i64 bt, .int .i64 bu, .int .i64 bv, .int .i64 aS, .int .u64 bw, .int .i64 ay, .int .i64 az, .int .i64 aA, .int .i64 aB, .int .i64 aC, .int .i64 aD, .int .i64 aE, .int .u64 aF, .int .i64 aG, .int .i64 aH, .int .i64 aI, .int .i64 aJ, .int .i64 aK]] w fun e w' => ∃ v0_ : Value, e = .returned (.tuple #[v0_, .bool r2]) ∧ IsC (Kd.int .u8) r1 v0_ w' ∧ Below w.heap.size w w' := by
 have H := h
 clear h
 unfold body_Put.f at H
 obtain ⟨t7, eW, H⟩ := Option.bind_eq_some_iff.mp H
 by_cases c1 : t7 = true
 rotate_left
 ·rw [if_neg c1] at H
  simp only [Option.some.injEq, Prod.mk.injEq] at H
  obtain ⟨rfl, rfl⟩ := H
  refine calls_of_wp (fn := Try.f8) (by kernel_rfl) rfl ?_
  have hS := St.enter #[.slice A0 l0.length bB, (body_Put.v0 ar bp bq br bs bt bu bv aS bw ay az aA aB aC aD aE aF aG aH aI aJ aK)] 80 (by simp) [(0, .slice A0 l0.length bB), (1, (body_Put.v0 ar bp bq br bs bt bu bv aS bw ay az aA aB aC aD aE aF aG aH aI aJ aK))] (by simp)
  have ee := Below.refl w.heap.size w
  refine wp_seq_k (fun K1 ek => ?_)
  refine reg_seq (I := I1_ w) (ps := [IsB (body_Put.c1 ar bp bq br bs bt bu bv aS bw ay az aA aB aC aD aE aF aG aH aI aJ aK) 29 w.heap.size, IsV (.slice none 0 0), VB false]) (by kernel_rfl) ?_ ?_ rfl hS ee ?_ ?_
  ·exact bs1
  ·exact .cons (Stays.b _ _ _) (.v (.v (.nil)))
  ·refine .on rfl (fun a w hS hI hp => does_var (x_box rfl (congrArg Value.cells (hS.get 1 rfl))) (hI).size) ?_
   iterate 2 refine .on rfl (fun a w hS hI hp => does_val (x_assign rfl (rfl)) rfl) ?_
   exact .nil
  clear hS
  intro fd w3 hS eG hp
  replace hS := (hS.nil).cons (hS.get 0 rfl)
  obtain ⟨g4, dt, c6, ag⟩ := (show IsB _ 29 _ (sl _ 3) _ from hp 0 (by decide))
  have hS := hS.cons dt
  clear hp dt
  refine ek _ _ ?_
  refine wp_seq_k (fun K5 eY => ?_)
  refine wp_seq_k (fun K6 eq => ?_)
  refine reg_seq (I := I2_ w w3) (ps := [IsV ((body_Put.v0 ar bp bq br bs bt bu bv aS bw ay az aA aB aC aD aE aF aG aH aI aJ aK)), VB t7, VB (!t7)]) (by kernel_rfl) ?_ ?_ rfl hS ⟨eG, (bR w3)⟩ ?_ ?_
  ·exact bs2
  ·exact .v (.v (.v (.nil)))
  ·refine .on rfl (fun a w hS hI hp => does_loadrow rfl (hS.get 0 rfl) (((hI.2).block g4 (blk_lt ag)).trans ag) Try.underlying29 rfl (by kernel_rfl) rfl) ?_
   refine .on rfl (fun a w hS hI hp => does_call (by kernel_rfl) (ar1 (hp.V 0 rfl rfl)) ((body_Check.calls (w := _) (h := eW)).mono fun _ _ h => ⟨_, h.1, h.2, rfl⟩)) ?_
   refine .on rfl (fun a w hS hI hp => does_val (x_not rfl (hp.V 1 rfl rfl)) rfl) ?_
   exact .nil
  clear hS
  intro fr w9 hS dy hp
  have dw : sl _ 9 = .bool (!t7) := hp 2 (by decide)
  have hS := hS.cons dw
  clear hp dw
  refine eq _ _ ?_
  refine wp_cond_true ((hS.get 0 rfl).trans (bT (congrArg (!·) (Bool.eq_false_iff.2 c1)))) ?_
  refine wp_seq_k (fun e8 dB => ?_)
  refine reg_seq (I := I3_ w w3 w9) (ps := [IsV (.slice A0 l0.length bB), IsV (.slice A0 l0.length bB), VB false]) (by kernel_rfl) ?_ ?_ rfl hS ⟨dy.1, dy.2, (bR w9)⟩ ?_ ?_
  ·exact bs3
  ·exact .v (.v (.v (.nil)))
  ·refine .ms 2 rfl rfl rfl ?_
   refine .asg 0 rfl rfl rfl rfl ?_
   refine .on rfl (fun a w hS hI hp => does_val (x_assign rfl (rfl)) rfl) ?_
   exact .nil
  clear hS
  intro e2 dz hS bY hp
  replace hS := hS.nil
  have du : sl _ 4 = .slice A0 l0.length bB := hp 1 (by decide)
  have dv : sl _ 5 = .bool false := hp 2 (by decide)
  have hS := hS.cons du
  have hS := hS.cons dv
  clear hp du dv
  refine dB _ _ ?_
  refine wp_ret ?_
  (try simp only [Exit.then, Exit.inBlock, Exit.jump, Exit.noGoto])
  exact bodyPost_ret (v := .tuple #[.slice A0 l0.length bB, .bool false]) (results_list (rs := [.tmp 4, .tmp 5]) rfl (by simp) (Vals.at (hS.get 1 rfl) (Vals.at (hS.get 0 rfl) .nil))) hS.nodef ⟨.slice A0 l0.length bB, rfl, ⟨_, _, rfl, HC0, Kd.C_below HR0 bY.1⟩, bY.1⟩
 rw [if_pos c1] at H
 refine calls_of_wp (fn := Try.f8) (by kernel_rfl) rfl ?_
 have hS := St.enter #[.slice A0 l0.length bB, (body_Put.v0 ar bp bq br bs bt bu bv aS bw ay az aA aB aC aD aE aF aG aH aI aJ aK)] 80 (by simp) [(0, .slice A0 l0.length bB), (1, (body_Put.v0 ar bp bq br bs bt bu bv aS bw ay az aA aB aC aD aE aF aG aH aI aJ aK))] (by simp)
 have ee := Below.refl w.heap.size w
 refine wp_seq_k (fun K1 ek => ?_)
 refine reg_seq (I := I1_ w) (ps := [IsB (body_Put.c1 ar bp bq br bs bt bu bv aS bw ay az aA aB aC aD aE aF aG aH aI aJ aK) 29 w.heap.size, IsV (.slice none 0 0), VB false]) (by kernel_rfl) ?_ ?_ rfl hS ee ?_ ?_
 ·exact bs1
 ·exact .cons (Stays.b _ _ _) (.v (.v (.nil)))
 ·refine .on rfl (fun a w hS hI hp => does_var (x_box rfl (congrArg Value.cells (hS.get 1 rfl))) (hI).size) ?_
  iterate 2 refine .on rfl (fun a w hS hI hp => does_val (x_assign rfl (rfl)) rfl) ?_
  exact .nil
 clear hS
 intro fd w3 hS eG hp
 replace hS := (hS.nil).cons (hS.get 0 rfl)
 obtain ⟨g4, dt, c6, ag⟩ := (show IsB _ 29 _ (sl _ 3) _ from hp 0 (by decide))
 have hS := hS.cons dt
 clear hp dt
 refine ek _ _ ?_
 refine wp_seq_k (fun K5 eY => ?_)
 refine wp_seq_k (fun K6 eq => ?_)
 refine reg_seq (I := I2_ w w3) (ps := [IsV ((body_Put.v0 ar bp bq br bs bt bu bv aS bw ay az aA aB aC aD aE aF aG aH aI aJ aK)), VB t7, VB (!t7)]) (by kernel_rfl) ?_ ?_ rfl hS ⟨eG, (bR w3)⟩ ?_ ?_
 ·exact bs2
 ·exact .v (.v (.v (.nil)))
 ·refine .on rfl (fun a w hS hI hp => does_loadrow rfl (hS.get 0 rfl) (((hI.2).block g4 (blk_lt ag)).trans ag) Try.underlying29 rfl (by kernel_rfl) rfl) ?_
  refine .on rfl (fun a w hS hI hp => does_call (by kernel_rfl) (ar1 (hp.V 0 rfl rfl)) ((body_Check.calls (w := _) (h := eW)).mono fun _ _ h => ⟨_, h.1, h.2, rfl⟩)) ?_
  refine .on rfl (fun a w hS hI hp => does_val (x_not rfl (hp.V 1 rfl rfl)) rfl) ?_
  exact .nil
 clear hS
 intro fr w9 hS dy hp
 have dw : sl _ 9 = .bool (!t7) := hp 2 (by decide)
 have hS := hS.cons dw
 clear hp dw
 refine eq _ _ ?_
 refine wp_cond_false ((hS.get 0 rfl).trans (bF (congrArg (!·) c1))) ?_
 refine wp_skip ?_
 refine eY _ _ ?_
 refine wp_seq_k (fun e8 dB => ?_)
 refine reg_seq (I := I3_ w w3 w9) (ps := [IsV (.slice A0 l0.length bB), IsV (.slice A0 l0.length bB), VI (l0.length : Int), IsV (.slice A0 l0.length bB), VI (l0.length : Int), IsV (.slice A0 l0.length l0.length), IsV (.slice A0 l0.length l0.length)]) (by kernel_rfl) ?_ ?_ rfl hS ⟨dy.1, dy.2, (bR w9)⟩ ?_ ?_
 ·exact bs3
 ·exact .v (.v (.v (.v (.v (.v (.v (.nil)))))))
 ·refine .ms 2 rfl rfl rfl ?_
  refine .ms 2 rfl rfl rfl ?_
  refine .on rfl (fun a w hS hI hp => does_val (x_len (e := 5) rfl (by kernel_rfl) (hp.V 1 rfl rfl)) rfl) ?_
  refine .ms 2 rfl rfl rfl ?_
  refine .on rfl (fun a w hS hI hp => does_val (x_len (e := 5) rfl (by kernel_rfl) (hp.V 3 rfl rfl)) rfl) ?_
  refine .on rfl (fun a w hS hI hp => does_val (x_cutcap (e := 5) (n := l0.length) (c := bB) (j := (l0.length : Int)) (k := (l0.length : Int)) rfl (by kernel_rfl) (by kernel_rfl) (hp.V 0 rfl rfl) (hp.V 2 rfl rfl) (hp.V 4 rfl rfl) (Int.natCast_nonneg _) (Int.le_refl _) (Int.ofNat_le.2 HC0)) rfl) ?_
  refine .asg 5 rfl rfl rfl rfl ?_
  exact .nil
 clear hS
 intro e2 dz hS bY hp
 replace hS := (hS.nil).cons (hS.get 1 rfl)
 have e0 : sl _ 6 = .slice A0 l0.length l0.length := hp 6 (by decide)
 have hS := hS.cons e0
 clear hp e0
 refine dB _ _ ?_
 refine wp_seq_k (fun e9 e4 => ?_)
 have J1 : ∀ (ef : Act) (bX : World) (aq bK bL bM bN bO bP bQ bS ax ao a2 a3 a4 a5 a6 a7 a8 a9 ba bb bc bd : Int) (ai : Nat) (bA : List Int) (b6 : Option Addr) (ce : Nat), body_Put.j1 k aq bK bL bM bN bO bP bQ bS ax ao a2 a3 a4 a5 a6 a7 a8 a9 ba bb bc bd bA = some (r1, r2) → St 80 [(3, .pointer (some ⟨ai, 0, none⟩)), (6, .slice b6 bA.length ce)] ef → Below w.heap.size w bX → w.heap.size ≤ ai → bX.heap[ai]? = some (.cells (body_Put.c1 aq bK bL bM bN bO bP bQ bS ax ao a2 a3 a4 a5 a6 a7 a8 a9 ba bb bc bd) 29 (0, 0)) → bA.length ≤ ce → Kd.C (Kd.int .u8) bX b6 bA.length bA → e9 ef bX := by
  intro ef bX aq bK bL bM bN bO bP bQ bS ax ao a2 a3 a4 a5 a6 a7 a8 a9 ba bb bc bd ai bA b6 ce H hS cX cj ad dO ds
  unfold body_Put.j1 at H
  (try dsimp only at H)
  refine e4 _ _ ?_
  refine wp_seq_k (fun eS el => ?_)
  have J2 : ∀ (eg : Act) (af : World) (ab cK cL cM cN cO cP cQ cR cS ci be bf aP aQ aR bg bh bi bj bk bl bm : Int) (ac : Nat) (au : List Int) (bn : Option Addr) (bo : Nat), body_Put.j2 k ab cK cL cM cN cO cP cQ cR cS ci be bf aP aQ aR bg bh bi bj bk bl bm au = some (r1, r2) → St 80 [(3, .pointer (some ⟨ac, 0, none⟩)), (6, .slice bn au.length bo)] eg → Below w.heap.size w af → w.heap.size ≤ ac → af.heap[ac]? = some (.cells (body_Put.c1 ab cK cL cM cN cO cP cQ cR cS ci be bf aP aQ aR bg bh bi bj bk bl bm) 29 (0, 0)) → au.length ≤ bo → Kd.C (Kd.int .u8) af bn au.length au → eS eg af := by
   intro eg af ab cK cL cM cN cO cP cQ cR cS ci be bf aP aQ aR bg bh bi bj bk bl bm ac au bn bo H hS bU eZ aa cv cf
   unfold body_Put.j2 at H
   (try dsimp only at H)
   refine el _ _ ?_
   refine wp_seq_k (fun eU em => ?_)
   have J3 : ∀ (eh : Act) (cZ : World) (aX : List Int) (aY : Option Addr) (aZ : Nat), body_Put.j3 k aX = some (r1, r2) → St 80 [(6, .slice aY aX.length aZ)] eh → Below w.heap.size w cZ → aX.length ≤ aZ → Kd.C (Kd.int .u8) cZ aY aX.length aX → eU eh cZ := by
    intro eh cZ aX aY aZ H hS dQ eV ey
    unfold body_Put.j3 at H
    (try dsimp only at H)
    simp only [Option.some.injEq, Prod.mk.injEq] at H
    obtain ⟨rfl, rfl⟩ := H
    refine em _ _ ?_
    refine wp_seq_k (fun fB ep => ?_)
    refine reg_seq (I := I2_ w cZ) (ps := [IsV (.slice aY aX.length aZ), IsV (.slice aY aX.length aZ), VB true]) (by kernel_rfl) ?_ ?_ rfl hS ⟨dQ, (bR cZ)⟩ ?_ ?_
    ·exact bs2
    ·exact .v (.v (.v (.nil)))
    ·refine .ms 0 rfl rfl rfl ?_
     refine .asg 0 rfl rfl rfl rfl ?_
     refine .on rfl (fun a w hS hI hp => does_val (x_assign rfl (rfl)) rfl) ?_
     exact .nil
    clear hS
    intro fq fG hS dx hp
    replace hS := hS.nil
    have du : sl _ 4 = .slice aY aX.length aZ := hp 1 (by decide)
    have dv : sl _ 5 = .bool true := hp 2 (by decide)
    have hS := hS.cons du
    have hS := hS.cons dv
    clear hp du dv
    refine ep _ _ ?_
    refine wp_ret ?_
    (try simp only [Exit.then, Exit.inBlock, Exit.jump, Exit.noGoto])
    exact bodyPost_ret (v := .tuple #[.slice aY aX.length aZ, .bool true]) (results_list (rs := [.tmp 4, .tmp 5]) rfl (by simp) (Vals.at (hS.get 1 rfl) (Vals.at (hS.get 0 rfl) .nil))) hS.nodef ⟨.slice aY aX.length aZ, rfl, ⟨_, _, rfl, eV, Kd.C_below ey dx.2⟩, dx.1⟩
   by_cases c2 : ab = 2
   ·rw [if_pos c2] at H
    obtain ⟨aM, d3, H⟩ := Option.bind_eq_some_iff.mp H
    refine wp_seq_k (fun c0 aT => ?_)
    refine reg_seq (I := I2_ w af) (ps := [VP ac 0, VI ab]) (by kernel_rfl) ?_ ?_ rfl hS ⟨bU, (bR af)⟩ ?_ ?_
    ·exact bs2
    ·exact .v (.v (.nil))
    ·refine .on rfl (fun a w hS hI hp => does_val (x_fieldE (b := 0) rfl (hS.get 0 rfl) Try.underlying29 rfl rfl (by kernel_rfl)) rfl) ?_
     refine .on rfl (fun a w hS hI hp => does_val (x_load1 (d := .int .i64) rfl (hp.V 0 rfl rfl) (by kernel_rfl) rfl ((blk_cell (((hI.2).block ac (blk_lt aa)).trans aa) 0).trans rfl)) rfl) ?_
     exact .nil
    clear hS
    intro cz ap hS al hp
    have aV : sl _ 32 = .int .i64 ab := hp 1 (by decide)
    have hS := hS.cons aV
    clear hp aV
    refine aT _ _ ?_
    refine wp_block ?_
    refine wp_seq_k (fun c5 aU => ?_)
    refine reg_seq (I := I3_ w af ap) (ps := [VB (decide (ab = 2)), VB (decide (ab = 2))]) (by kernel_rfl) ?_ ?_ rfl hS ⟨al.1, al.2, (bR ap)⟩ ?_ ?_
    ·exact bs3
    ·exact .v (.v (.nil))
    ·refine .on rfl (fun a w hS hI hp => does_val (x_bin rfl (hS.get 0 rfl) (rfl) (b_eql _ _ _ _ _ _)) rfl) ?_
     refine .asg 0 rfl rfl rfl rfl ?_
     exact .nil
    clear hS
    intro cA ak hS am hp
    have aW : sl _ 33 = .bool (decide (ab = 2)) := hp 1 (by decide)
    have hS := hS.cons aW
    clear hp aW
    refine aU _ _ ?_
    refine wp_cond_true ((hS.get 0 rfl).trans (bT (decide_eq_true c2))) ?_
    refine reg_seq_tail 3 (I := I3_ w af ak) (ps := [IsV (.slice bn au.length bo), IsV (.agg #[.int .u64 0, .int .i64 0]), IsR (Kd.int .u8) 5 ak.heap.size aM]) (by kernel_rfl) ?_ ?_ rfl hS ⟨am.1, am.2.1, (bR ak)⟩ ?_ ?_
    ·exact bs3
    ·exact .v (.v (.cons (Stays.r _ _ _ _) (.nil)))
    ·refine .ms 3 rfl rfl rfl ?_
     refine .on rfl (fun a w hS hI hp => does_val (x_build (vs := []) rfl (by rw [Array.toList_map]; exact (show [] = _ from rfl)) (by kernel_rfl)) rfl) ?_
     refine .on rfl (fun a w hS hI hp => does_call (by kernel_rfl) (ar2 (hp.V 0 rfl rfl) (hp.V 1 rfl rfl)) ((ident_Put.calls _ _ au 0 0 aM _ (Kd.C_below cf hI.2.1) cv d3).mono fun _ _ h => h.elim fun v0 h => ⟨v0, h.1, h.2.2, Kd.R_lower h.2.1 hI.2.2.size⟩)) ?_
     exact .nil
    clear hS
    intro cB ae hS ah hp
    replace hS := (hS.nil).cons (hS.get 3 rfl)
    obtain ⟨b0, b8, dF, eA, es⟩ := Kd.R_reads (show Kd.R (Kd.int .u8) 5 ae ak.heap.size (fun _ => True) (sl _ 37) aM from hp 2 (by decide))
    have ft : Kd.R (Kd.int .u8) 5 ae ak.heap.size (fun _ => True) (.slice b0 aM.length b8) aM := dF ▸ (hp 2 (by decide))
    have hS := hS.cons dF
    clear hp dF
    show wpList _ _ _ [_] _ _
    refine list_step rfl (R := fun v w' => Below _ _ w' ∧ (IsV (.slice b0 aM.length b8)) v w') (does_val (x_assign rfl (hS.get 0 rfl)) rfl) ?_
    rintro eI fD ⟨hb, he⟩
    have dk := below_step ah.1 hb
    have eP := below_step ah.2.1 hb
    have dS := below_step ah.2.2 hb
    have cl := below_step (bR ae) hb
    obtain rfl : eI = .slice b0 aM.length b8 := he
    replace hS := (hS.nil).cons (hS.get 0 rfl)
    refine hS.next (v := .slice b0 aM.length b8) (d := 6) rfl (by decide) (by rfl) ?_
    clear hS
    intro fe hS
    refine wpList_nil ?_
    replace hS := (hS.nil).cons (hS.get 0 rfl)
    (try simp only [Exit.then, Exit.inBlock])
    exact J3 _ _ aM b0 b8 H hS dk eA (Kd.C_below es cl)
   rw [if_neg c2] at H
   by_cases c3 : ab = 11
   ·rw [if_pos c3] at H
    obtain ⟨c7, d4, H⟩ := Option.bind_eq_some_iff.mp H
    obtain ⟨c8, d5, H⟩ := Option.bind_eq_some_iff.mp H
    obtain ⟨av, d6, H⟩ := Option.bind_eq_some_iff.mp H
    obtain ⟨da, d9, H⟩ := Option.bind_eq_some_iff.mp H
    obtain ⟨aj, cy, H⟩ := Option.bind_eq_some_iff.mp H
    obtain ⟨db, eb, H⟩ := Option.bind_eq_some_iff.mp H
    obtain ⟨dc, ec, H⟩ := Option.bind_eq_some_iff.mp H
    obtain ⟨aO, ed, H⟩ := Option.bind_eq_some_iff.mp H
    refine wp_seq_k (fun c0 aT => ?_)
    refine reg_seq (I := I2_ w af) (ps := [VP ac 0, VI ab]) (by kernel_rfl) ?_ ?_ rfl hS ⟨bU, (bR af)⟩ ?_ ?_
    ·exact bs2
    ·exact .v (.v (.nil))
    ·refine .on rfl (fun a w hS hI hp => does_val (x_fieldE (b := 0) rfl (hS.get 0 rfl) Try.underlying29 rfl rfl (by kernel_rfl)) rfl) ?_
     refine .on rfl (fun a w hS hI hp => does_val (x_load1 (d := .int .i64) rfl (hp.V 0 rfl rfl) (by kernel_rfl) rfl ((blk_cell (((hI.2).block ac (blk_lt aa)).trans aa) 0).trans rfl)) rfl) ?_
     exact .nil
    clear hS
    intro cz ap hS al hp
    have aV : sl _ 32 = .int .i64 ab := hp 1 (by decide)
    have hS := hS.cons aV
    clear hp aV
    refine aT _ _ ?_
    refine wp_block ?_
    refine wp_seq_k (fun c5 aU => ?_)
    refine reg_seq (I := I3_ w af ap) (ps := [VB (decide (ab = 2)), VB (decide (ab = 2))]) (by kernel_rfl) ?_ ?_ rfl hS ⟨al.1, al.2, (bR ap)⟩ ?_ ?_
    ·exact bs3
    ·exact .v (.v (.nil))
    ·refine .on rfl (fun a w hS hI hp => does_val (x_bin rfl (hS.get 0 rfl) (rfl) (b_eql _ _ _ _ _ _)) rfl) ?_
     refine .asg 0 rfl rfl rfl rfl ?_
     exact .nil
    clear hS
    intro cA ak hS am hp
    have aW : sl _ 33 = .bool (decide (ab = 2)) := hp 1 (by decide)
    have hS := hS.cons aW
    clear hp aW
    refine aU _ _ ?_
    refine wp_cond_false ((hS.get 0 rfl).trans (bF (decide_eq_false c2))) ?_
    refine wp_seq_k (fun dM bC => ?_)
    refine reg_seq (I := I3_ w af ak) (ps := [VB (decide (ab = 11)), VB (decide (ab = 11))]) (by kernel_rfl) ?_ ?_ rfl hS ⟨am.1, am.2.1, (bR ak)⟩ ?_ ?_
    ·exact bs3
    ·exact .v (.v (.nil))
    ·refine .on rfl (fun a w hS hI hp => does_val (x_bin rfl (hS.get 1 rfl) (rfl) (b_eql _ _ _ _ _ _)) rfl) ?_
     refine .asg 0 rfl rfl rfl rfl ?_
     exact .nil
    clear hS
    intro cB ae hS ah hp
    replace hS := (((hS.nil).cons (hS.get 3 rfl)).cons (hS.get 2 rfl)).cons (hS.get 1 rfl)
    have bE : sl _ 38 = .bool (decide (ab = 11)) := hp 1 (by decide)
    have hS := hS.cons bE
    clear hp bE
    refine bC _ _ ?_
    refine wp_cond_true ((hS.get 0 rfl).trans (bT (decide_eq_true c3))) ?_
    refine wp_seq_k (fun dN bD => ?_)
    refine reg_any_tail 8 [0, 0, 2, 7, 15, 0, 32, 127, 255] (I := I3_ w af ae) (ps := [IsV (.slice bn au.length bo), VP ac 11, VI be, IsR (Kd.int .u8) 5 ae.heap.size c7, IsR (Kd.int .u8) 5 ae.heap.size c8, VP ac 12, VI bf, IsR (Kd.int .u8) 5 ae.heap.size av]) (by kernel_rfl) (by kernel_rfl) (by kernel_rfl) (by decide) ?_ ?_ rfl hS ⟨ah.1, ah.2.1, (bR ae)⟩ ?_ ?_
    ·exact bs3
    ·exact .v (.v (.v (.cons (Stays.r _ _ _ _) (.cons (Stays.r _ _ _ _) (.v (.v (.cons (Stays.r _ _ _ _) (.nil))))))))
    ·refine .ms 3 rfl rfl rfl ?_
     refine .on rfl (fun a w hS hI hp => does_val (x_fieldE (b := 0) rfl (hS.get 2 rfl) Try.underlying29 rfl rfl (by kernel_rfl)) rfl) ?_
     refine .on rfl (fun a w hS hI hp => does_val (x_load1 (d := .int .i64) rfl (hp.V 1 rfl rfl) (by kernel_rfl) rfl ((blk_cell (((hI.2.1).block ac (blk_lt aa)).trans aa) 11).trans rfl)) rfl) ?_
     refine .on rfl (fun a w hS hI hp => does_call (by kernel_rfl) (ar3 (hp.V 0 rfl rfl) (hp.V 2 rfl rfl) (rfl)) ((octets_Put.calls _ _ au be 2 c7 _ (Kd.C_below cf hI.2.1) cv d4).mono fun _ _ h => h.elim fun v0 h => ⟨v0, h.1, h.2.2, Kd.R_lower h.2.1 hI.2.2.size⟩)) ?_
     refine .on rfl (fun a w hS hI hp => (IsC.of_r (hp.V 3 rfl rfl)).elim fun A_ h_ => h_.elim fun c_ h_ => h_.elim fun hv_ h_ => h_.elim fun hl_ hc_ => does_call (by kernel_rfl) (ar3 (hv_) (rfl) (rfl)) ((octets_Put.calls _ _ c7 0 1 c8 _ hc_ hl_ d5).mono fun _ _ h => h.elim fun v0 h => ⟨v0, h.1, h.2.2, Kd.R_lower h.2.1 hI.2.2.size⟩)) ?_
     refine .on rfl (fun a w hS hI hp => does_val (x_fieldE (b := 0) rfl (hS.get 2 rfl) Try.underlying29 rfl rfl (by kernel_rfl)) rfl) ?_
     refine .on rfl (fun a w hS hI hp => does_val (x_load1 (d := .int .i64) rfl (hp.V 5 rfl rfl) (by kernel_rfl) rfl ((blk_cell (((hI.2.1).block ac (blk_lt aa)).trans aa) 12).trans rfl)) rfl) ?_
     refine .on rfl (fun a w hS hI hp => (IsC.of_r (hp.V 4 rfl rfl)).elim fun A_ h_ => h_.elim fun c_ h_ => h_.elim fun hv_ h_ => h_.elim fun hl_ hc_ => does_call (by kernel_rfl) (ar3 (hv_) (hp.V 6 rfl rfl) (rfl)) ((octets_Put.calls _ _ c8 bf 1 av _ hc_ hl_ d6).mono fun _ _ h => h.elim fun v0 h => ⟨v0, h.1, h.2.2, Kd.R_lower h.2.1 hI.2.2.size⟩)) ?_
     exact .nil
    clear hS
    intro ff cw hS cH hp
    replace hS := ((hS.nil).cons (hS.get 3 rfl)).cons (hS.get 2 rfl)
    obtain ⟨b1, b9, dG, eB, et⟩ := Kd.R_reads (show Kd.R (Kd.int .u8) 5 cw ae.heap.size (fun _ => True) (sl _ 47) av from hp 7 (by decide))
    have fu : Kd.R (Kd.int .u8) 5 cw ae.heap.size (fun _ => True) (.slice b1 av.length b9) av := dG ▸ (hp 7 (by decide))
    have hS := hS.cons dG
    clear hp dG
    show wpList _ _ _ [_] _ _
    refine list_step rfl (R := fun v w' => Below _ _ w' ∧ (IsV (.slice b1 av.length b9)) v w') (does_val (x_assign rfl (hS.get 0 rfl)) rfl) ?_
    rintro eJ an ⟨hb, he⟩
    have dl := below_step cH.1 hb
    have cU := below_step cH.2.1 hb
    have cm := below_step cH.2.2 hb
    have cn := below_step (bR cw) hb
    obtain rfl : eJ = .slice b1 av.length b9 := he
    replace hS := ((hS.nil).cons (hS.get 1 rfl)).cons (hS.get 0 rfl)
    refine hS.next (v := .slice b1 av.length b9) (d := 6) rfl (by decide) (by rfl) ?_
    clear hS
    intro fh hS
    refine wpList_nil ?_
    refine bD _ _ ?_
    refine wp_seq_k (fun fA eo => ?_)
    refine reg_any_tail 7 [0, 0, 2, 7, 0, 16, 63, 127] (I := I5_ w af ae cw an) (ps := [IsV (.slice b1 av.length b9), VP ac 13, IsV (.agg #[.int .i64 aP, .int .i64 aQ, .int .i64 aR]), IsR (Kd.int .u8) 5 an.heap.size da, VP ac 16, VI bg, IsR (Kd.int .u8) 5 an.heap.size aj]) (by kernel_rfl) (by kernel_rfl) (by kernel_rfl) (by decide) ?_ ?_ rfl hS ⟨dl, cU, cm, cn, (bR an)⟩ ?_ ?_
    ·exact bs5
    ·exact .v (.v (.v (.cons (Stays.r _ _ _ _) (.v (.v (.cons (Stays.r _ _ _ _) (.nil)))))))
    ·refine .ms 0 rfl rfl rfl ?_
     refine .on rfl (fun a w hS hI hp => does_val (x_fieldE (b := 0) rfl (hS.get 2 rfl) Try.underlying29 rfl rfl (by kernel_rfl)) rfl) ?_
     refine .on rfl (fun a w hS hI hp => does_loadmid (cs := [.int .i64 aP, .int .i64 aQ, .int .i64 aR]) rfl (hp.V 1 rfl rfl) (((hI.2.1).block ac (blk_lt aa)).trans aa) (by kernel_rfl) Try.underlying27 rfl (by kernel_rfl) rfl) ?_
     refine .on rfl (fun a w hS hI hp => does_call (by kernel_rfl) (ar2 (hp.V 0 rfl rfl) (hp.V 2 rfl rfl)) ((quality_Put.calls _ _ av aP aQ aR da _ (Kd.C_below et hI.2.2.2.1) eB d9).mono fun _ _ h => h.elim fun v0 h => ⟨v0, h.1, h.2.2, Kd.R_lower h.2.1 hI.2.2.2.2.size⟩)) ?_
     refine .on rfl (fun a w hS hI hp => does_val (x_fieldE (b := 0) rfl (hS.get 2 rfl) Try.underlying29 rfl rfl (by kernel_rfl)) rfl) ?_
     refine .on rfl (fun a w hS hI hp => does_val (x_load1 (d := .int .i64) rfl (hp.V 4 rfl rfl) (by kernel_rfl) rfl ((blk_cell (((hI.2.1).block ac (blk_lt aa)).trans aa) 16).trans rfl)) rfl) ?_
     refine .on rfl (fun a w hS hI hp => (IsC.of_r (hp.V 3 rfl rfl)).elim fun A_ h_ => h_.elim fun c_ h_ => h_.elim fun hv_ h_ => h_.elim fun hl_ hc_ => does_call (by kernel_rfl) (ar3 (hv_) (hp.V 5 rfl rfl) (rfl)) ((octets_Put.calls _ _ da bg 1 aj _ hc_ hl_ cy).mono fun _ _ h => h.elim fun v0 h => ⟨v0, h.1, h.2.2, Kd.R_lower h.2.1 hI.2.2.2.2.size⟩)) ?_
     exact .nil
    clear hS
    intro fj cx hS bH hp
    replace hS := ((hS.nil).cons (hS.get 2 rfl)).cons (hS.get 0 rfl)
    obtain ⟨b3, cb, dH, eD, ev⟩ := Kd.R_reads (show Kd.R (Kd.int .u8) 5 cx an.heap.size (fun _ => True) (sl _ 54) aj from hp 6 (by decide))
    have fw : Kd.R (Kd.int .u8) 5 cx an.heap.size (fun _ => True) (.slice b3 aj.length cb) aj := dH ▸ (hp 6 (by decide))
    have hS := hS.cons dH
    clear hp dH
    show wpList _ _ _ [_] _ _
    refine list_step rfl (R := fun v w' => Below _ _ w' ∧ (IsV (.slice b3 aj.length cb)) v w') (does_val (x_assign rfl (hS.get 0 rfl)) rfl) ?_
    rintro eL bz ⟨hb, he⟩
    have dn := below_step bH.1 hb
    have cW := below_step bH.2.1 hb
    have dT := below_step bH.2.2.1 hb
    have dU := below_step bH.2.2.2.1 hb
    have cq := below_step bH.2.2.2.2 hb
    have cr := below_step (bR cx) hb
    obtain rfl : eL = .slice b3 aj.length cb := he
    replace hS := ((hS.nil).cons (hS.get 2 rfl)).cons (hS.get 0 rfl)
    refine hS.next (v := .slice b3 aj.length cb) (d := 6) rfl (by decide) (by rfl) ?_
    clear hS
    intro fl hS
    refine wpList_nil ?_
    refine eo _ _ ?_
    refine reg_any_tail 10 [0, 0, 2, 7, 0, 16, 63, 0, 128, 511, 1023] (I := I5_ w af an cx bz) (ps := [IsV (.slice b3 aj.length cb), VP ac 17, IsV (.int .u64 bh), IsR (Kd.int .u8) 5 bz.heap.size db, VP ac 18, VI bi, IsR (Kd.int .u8) 5 bz.heap.size dc, VP ac 19, VI bj, IsR (Kd.int .u8) 5 bz.heap.size aO]) (by kernel_rfl) (by kernel_rfl) (by kernel_rfl) (by decide) ?_ ?_ rfl hS ⟨dn, cW, cq, cr, (bR bz)⟩ ?_ ?_
    ·exact bs5
    ·exact .v (.v (.v (.cons (Stays.r _ _ _ _) (.v (.v (.cons (Stays.r _ _ _ _) (.v (.v (.cons (Stays.r _ _ _ _) (.nil))))))))))
    ·refine .ms 0 rfl rfl rfl ?_
     refine .on rfl (fun a w hS hI hp => does_val (x_fieldE (b := 0) rfl (hS.get 2 rfl) Try.underlying29 rfl rfl (by kernel_rfl)) rfl) ?_
     refine .on rfl (fun a w hS hI hp => does_val (x_load1 (d := .int .u64) rfl (hp.V 1 rfl rfl) (by kernel_rfl) rfl ((blk_cell (((hI.2.1).block ac (blk_lt aa)).trans aa) 17).trans rfl)) rfl) ?_
     refine .on rfl (fun a w hS hI hp => does_call (by kernel_rfl) (ar2 (hp.V 0 rfl rfl) (hp.V 2 rfl rfl)) ((octets_PutId.calls _ _ aj bh db _ (Kd.C_below ev hI.2.2.2.1) eD eb).mono fun _ _ h => h.elim fun v0 h => ⟨v0, h.1, h.2.2, Kd.R_lower h.2.1 hI.2.2.2.2.size⟩)) ?_
     refine .on rfl (fun a w hS hI hp => does_val (x_fieldE (b := 0) rfl (hS.get 2 rfl) Try.underlying29 rfl rfl (by kernel_rfl)) rfl) ?_
     refine .on rfl (fun a w hS hI hp => does_val (x_load1 (d := .int .i64) rfl (hp.V 4 rfl rfl) (by kernel_rfl) rfl ((blk_cell (((hI.2.1).block ac (blk_lt aa)).trans aa) 18).trans rfl)) rfl) ?_
     refine .on rfl (fun a w hS hI hp => (IsC.of_r (hp.V 3 rfl rfl)).elim fun A_ h_ => h_.elim fun c_ h_ => h_.elim fun hv_ h_ => h_.elim fun hl_ hc_ => does_call (by kernel_rfl) (ar3 (hv_) (hp.V 5 rfl rfl) (rfl)) ((octets_Put.calls _ _ db bi 2 dc _ hc_ hl_ ec).mono fun _ _ h => h.elim fun v0 h => ⟨v0, h.1, h.2.2, Kd.R_lower h.2.1 hI.2.2.2.2.size⟩)) ?_
     refine .on rfl (fun a w hS hI hp => does_val (x_fieldE (b := 0) rfl (hS.get 2 rfl) Try.underlying29 rfl rfl (by kernel_rfl)) rfl) ?_
     refine .on rfl (fun a w hS hI hp => does_val (x_load1 (d := .int .i64) rfl (hp.V 7 rfl rfl) (by kernel_rfl) rfl ((blk_cell (((hI.2.1).block ac (blk_lt aa)).trans aa) 19).trans rfl)) rfl) ?_
     refine .on rfl (fun a w hS hI hp => (IsC.of_r (hp.V 6 rfl rfl)).elim fun A_ h_ => h_.elim fun c_ h_ => h_.elim fun hv_ h_ => h_.elim fun hl_ hc_ => does_call (by kernel_rfl) (ar3 (hv_) (hp.V 8 rfl rfl) (rfl)) ((octets_Put.calls _ _ dc bj 1 aO _ hc_ hl_ ed).mono fun _ _ h => h.elim fun v0 h => ⟨v0, h.1, h.2.2, Kd.R_lower h.2.1 hI.2.2.2.2.size⟩)) ?_
     exact .nil
    clear hS
    intro fo df hS bJ hp
    replace hS := (hS.nil).cons (hS.get 0 rfl)
    obtain ⟨b5, cd, dI, eF, ex⟩ := Kd.R_reads (show Kd.R (Kd.int .u8) 5 df bz.heap.size (fun _ => True) (sl _ 64) aO from hp 9 (by decide))
    have fy : Kd.R (Kd.int .u8) 5 df bz.heap.size (fun _ => True) (.slice b5 aO.length cd) aO := dI ▸ (hp 9 (by decide))
    have hS := hS.cons dI
    clear hp dI
    show wpList _ _ _ [_] _ _
    refine list_step rfl (R := fun v w' => Below _ _ w' ∧ (IsV (.slice b5 aO.length cd)) v w') (does_val (x_assign rfl (hS.get 0 rfl)) rfl) ?_
    rintro eN fF ⟨hb, he⟩
    have dq := below_step bJ.1 hb
    have eR := below_step bJ.2.1 hb
    have dY := below_step bJ.2.2.1 hb
    have dZ := below_step bJ.2.2.2.1 hb
    have d0 := below_step bJ.2.2.2.2 hb
    have cu := below_step (bR df) hb
    obtain rfl : eN = .slice b5 aO.length cd := he
    replace hS := (hS.nil).cons (hS.get 0 rfl)
    refine hS.next (v := .slice b5 aO.length cd) (d := 6) rfl (by decide) (by rfl) ?_
    clear hS
    intro fp hS
    refine wpList_nil ?_
    replace hS := (hS.nil).cons (hS.get 0 rfl)
    (try simp only [Exit.then, Exit.inBlock])
    exact J3 _ _ aO b5 cd H hS dq eF (Kd.C_below ex cu)
   rw [if_neg c3] at H
   by_cases c4 : ab = 13
   rotate_left
   ·rw [if_neg c4] at H
    refine wp_seq_k (fun c0 aT => ?_)
    refine reg_seq (I := I2_ w af) (ps := [VP ac 0, VI ab]) (by kernel_rfl) ?_ ?_ rfl hS ⟨bU, (bR af)⟩ ?_ ?_
    ·exact bs2
    ·exact .v (.v (.nil))
    ·refine .on rfl (fun a w hS hI hp => does_val (x_fieldE (b := 0) rfl (hS.get 0 rfl) Try.underlying29 rfl rfl (by kernel_rfl)) rfl) ?_
     refine .on rfl (fun a w hS hI hp => does_val (x_load1 (d := .int .i64) rfl (hp.V 0 rfl rfl) (by kernel_rfl) rfl ((blk_cell (((hI.2).block ac (blk_lt aa)).trans aa) 0).trans rfl)) rfl) ?_
     exact .nil
    clear hS
    intro cz ap hS al hp
    have aV : sl _ 32 = .int .i64 ab := hp 1 (by decide)
    have hS := hS.cons aV
    clear hp aV
    refine aT _ _ ?_
    refine wp_block ?_
    refine wp_seq_k (fun c5 aU => ?_)
    refine reg_seq (I := I3_ w af ap) (ps := [VB (decide (ab = 2)), VB (decide (ab = 2))]) (by kernel_rfl) ?_ ?_ rfl hS ⟨al.1, al.2, (bR ap)⟩ ?_ ?_
    ·exact bs3
    ·exact .v (.v (.nil))
    ·refine .on rfl (fun a w hS hI hp => does_val (x_bin rfl (hS.get 0 rfl) (rfl) (b_eql _ _ _ _ _ _)) rfl) ?_
     refine .asg 0 rfl rfl rfl rfl ?_
     exact .nil
    clear hS
    intro cA ak hS am hp
    have aW : sl _ 33 = .bool (decide (ab = 2)) := hp 1 (by decide)
    have hS := hS.cons aW
    clear hp aW
    refine aU _ _ ?_
    refine wp_cond_false ((hS.get 0 rfl).trans (bF (decide_eq_false c2))) ?_
    refine wp_seq_k (fun dM bC => ?_)
    refine reg_seq (I := I3_ w af ak) (ps := [VB (decide (ab = 11)), VB (decide (ab = 11))]) (by kernel_rfl) ?_ ?_ rfl hS ⟨am.1, am.2.1, (bR ak)⟩ ?_ ?_
    ·exact bs3
    ·exact .v (.v (.nil))
    ·refine .on rfl (fun a w hS hI hp => does_val (x_bin rfl (hS.get 1 rfl) (rfl) (b_eql _ _ _ _ _ _)) rfl) ?_
     refine .asg 0 rfl rfl rfl rfl ?_
     exact .nil
    clear hS
    intro cB ae hS ah hp
    replace hS := (((hS.nil).cons (hS.get 3 rfl)).cons (hS.get 2 rfl)).cons (hS.get 1 rfl)
    have bE : sl _ 38 = .bool (decide (ab = 11)) := hp 1 (by decide)
    have hS := hS.cons bE
    clear hp bE
    refine bC _ _ ?_
    refine wp_cond_false ((hS.get 0 rfl).trans (bF (decide_eq_false c3))) ?_
    refine wp_seq_k (fun dN bD => ?_)
    refine reg_seq (I := I3_ w af ae) (ps := [VB (decide (ab = 13)), VB (decide (ab = 13))]) (by kernel_rfl) ?_ ?_ rfl hS ⟨ah.1, ah.2.1, (bR ae)⟩ ?_ ?_
    ·exact bs3
    ·exact .v (.v (.nil))
    ·refine .on rfl (fun a w hS hI hp => does_val (x_bin rfl (hS.get 1 rfl) (rfl) (b_eql _ _ _ _ _ _)) rfl) ?_
     refine .asg 0 rfl rfl rfl rfl ?_
     exact .nil
    clear hS
    intro ej a0 hS bG hp
    replace hS := ((hS.nil).cons (hS.get 3 rfl)).cons (hS.get 2 rfl)
    have cF : sl _ 65 = .bool (decide (ab = 13)) := hp 1 (by decide)
    have hS := hS.cons cF
    clear hp cF
    refine bD _ _ ?_
    refine wp_cond_false ((hS.get 0 rfl).trans (bF (decide_eq_false c4))) ?_
    refine wp_skip ?_
    replace hS := (hS.nil).cons (hS.get 2 rfl)
    (try simp only [Exit.then, Exit.inBlock])
    exact J3 _ _ au bn bo H hS bG.1 cv (Kd.C_below cf bG.2.1)
   rw [if_pos c4] at H
   obtain ⟨c9, d7, H⟩ := Option.bind_eq_some_iff.mp H
   obtain ⟨aw, d8, H⟩ := Option.bind_eq_some_iff.mp H
   obtain ⟨aj, cy, H⟩ := Option.bind_eq_some_iff.mp H
   obtain ⟨aN, ea, H⟩ := Option.bind_eq_some_iff.mp H
   refine wp_seq_k (fun c0 aT => ?_)
   refine reg_seq (I := I2_ w af) (ps := [VP ac 0, VI ab]) (by kernel_rfl) ?_ ?_ rfl hS ⟨bU, (bR af)⟩ ?_ ?_
   ·exact bs2
   ·exact .v (.v (.nil))
   ·refine .on rfl (fun a w hS hI hp => does_val (x_fieldE (b := 0) rfl (hS.get 0 rfl) Try.underlying29 rfl rfl (by kernel_rfl)) rfl) ?_
    refine .on rfl (fun a w hS hI hp => does_val (x_load1 (d := .int .i64) rfl (hp.V 0 rfl rfl) (by kernel_rfl) rfl ((blk_cell (((hI.2).block ac (blk_lt aa)).trans aa) 0).trans rfl)) rfl) ?_
    exact .nil
   clear hS
   intro cz ap hS al hp
   have aV : sl _ 32 = .int .i64 ab := hp 1 (by decide)
   have hS := hS.cons aV
   clear hp aV
   refine aT _ _ ?_
   refine wp_block ?_
   refine wp_seq_k (fun c5 aU => ?_)
   refine reg_seq (I := I3_ w af ap) (ps := [VB (decide (ab = 2)), VB (decide (ab = 2))]) (by kernel_rfl) ?_ ?_ rfl hS ⟨al.1, al.2, (bR ap)⟩ ?_ ?_
   ·exact bs3
   ·exact .v (.v (.nil))
   ·refine .on rfl (fun a w hS hI hp => does_val (x_bin rfl (hS.get 0 rfl) (rfl) (b_eql _ _ _ _ _ _)) rfl) ?_
    refine .asg 0 rfl rfl rfl rfl ?_
    exact .nil
   clear hS
   intro cA ak hS am hp
   have aW : sl _ 33 = .bool (decide (ab = 2)) := hp 1 (by decide)
   have hS := hS.cons aW
   clear hp aW
   refine aU _ _ ?_
   refine wp_cond_false ((hS.get 0 rfl).trans (bF (decide_eq_false c2))) ?_
   refine wp_seq_k (fun dM bC => ?_)
   refine reg_seq (I := I3_ w af ak) (ps := [VB (decide (ab = 11)), VB (decide (ab = 11))]) (by kernel_rfl) ?_ ?_ rfl hS ⟨am.1, am.2.1, (bR ak)⟩ ?_ ?_
   ·exact bs3
   ·exact .v (.v (.nil))
   ·refine .on rfl (fun a w hS hI hp => does_val (x_bin rfl (hS.get 1 rfl) (rfl) (b_eql _ _ _ _ _ _)) rfl) ?_
    refine .asg 0 rfl rfl rfl rfl ?_
    exact .nil
   clear hS
   intro cB ae hS ah hp
   replace hS := (((hS.nil).cons (hS.get 3 rfl)).cons (hS.get 2 rfl)).cons (hS.get 1 rfl)
   have bE : sl _ 38 = .bool (decide (ab = 11)) := hp 1 (by decide)
   have hS := hS.cons bE
   clear hp bE
   refine bC _ _ ?_
   refine wp_cond_false ((hS.get 0 rfl).trans (bF (decide_eq_false c3))) ?_
   refine wp_seq_k (fun dN bD => ?_)
   refine reg_seq (I := I3_ w af ae) (ps := [VB (decide (ab = 13)), VB (decide (ab = 13))]) (by kernel_rfl) ?_ ?_ rfl hS ⟨ah.1, ah.2.1, (bR ae)⟩ ?_ ?_
   ·exact bs3
   ·exact .v (.v (.nil))
   ·refine .on rfl (fun a w hS hI hp => does_val (x_bin rfl (hS.get 1 rfl) (rfl) (b_eql _ _ _ _ _ _)) rfl) ?_
    refine .asg 0 rfl rfl rfl rfl ?_
    exact .nil
   clear hS
   intro ej a0 hS bG hp
   replace hS := ((hS.nil).cons (hS.get 3 rfl)).cons (hS.get 2 rfl)
   have cF : sl _ 65 = .bool (decide (ab = 13)) := hp 1 (by decide)
   have hS := hS.cons cF
   clear hp cF
   refine bD _ _ ?_
   refine wp_cond_true ((hS.get 0 rfl).trans (bT (decide_eq_true c4))) ?_
   refine wp_seq_k (fun fz en => ?_)
   refine reg_any_tail 7 [0, 0, 2, 7, 0, 16, 63, 127] (I := I3_ w af a0) (ps := [IsV (.slice bn au.length bo), VP ac 20, VI bk, IsR (Kd.int .u8) 5 a0.heap.size c9, VP ac 21, VI bl, IsR (Kd.int .u8) 5 a0.heap.size aw]) (by kernel_rfl) (by kernel_rfl) (by kernel_rfl) (by decide) ?_ ?_ rfl hS ⟨bG.1, bG.2.1, (bR a0)⟩ ?_ ?_
   ·exact bs3
   ·exact .v (.v (.v (.cons (Stays.r _ _ _ _) (.v (.v (.cons (Stays.r _ _ _ _) (.nil)))))))
   ·refine .ms 2 rfl rfl rfl ?_
    refine .on rfl (fun a w hS hI hp => does_val (x_fieldE (b := 0) rfl (hS.get 1 rfl) Try.underlying29 rfl rfl (by kernel_rfl)) rfl) ?_
    refine .on rfl (fun a w hS hI hp => does_val (x_load1 (d := .int .i64) rfl (hp.V 1 rfl rfl) (by kernel_rfl) rfl ((blk_cell (((hI.2.1).block ac (blk_lt aa)).trans aa) 20).trans rfl)) rfl) ?_
    refine .on rfl (fun a w hS hI hp => does_call (by kernel_rfl) (ar3 (hp.V 0 rfl rfl) (hp.V 2 rfl rfl) (rfl)) ((octets_Put.calls _ _ au bk 1 c9 _ (Kd.C_below cf hI.2.1) cv d7).mono fun _ _ h => h.elim fun v0 h => ⟨v0, h.1, h.2.2, Kd.R_lower h.2.1 hI.2.2.size⟩)) ?_
    refine .on rfl (fun a w hS hI hp => does_val (x_fieldE (b := 0) rfl (hS.get 1 rfl) Try.underlying29 rfl rfl (by kernel_rfl)) rfl) ?_
    refine .on rfl (fun a w hS hI hp => does_val (x_load1 (d := .int .i64) rfl (hp.V 4 rfl rfl) (by kernel_rfl) rfl ((blk_cell (((hI.2.1).block ac (blk_lt aa)).trans aa) 21).trans rfl)) rfl) ?_
    refine .on rfl (fun a w hS hI hp => (IsC.of_r (hp.V 3 rfl rfl)).elim fun A_ h_ => h_.elim fun c_ h_ => h_.elim fun hv_ h_ => h_.elim fun hl_ hc_ => does_call (by kernel_rfl) (ar3 (hv_) (hp.V 5 rfl rfl) (rfl)) ((octets_Put.calls _ _ c9 bl 1 aw _ hc_ hl_ d8).mono fun _ _ h => h.elim fun v0 h => ⟨v0, h.1, h.2.2, Kd.R_lower h.2.1 hI.2.2.size⟩)) ?_
    exact .nil
   clear hS
   intro fg an hS cI hp
   replace hS := ((hS.nil).cons (hS.get 2 rfl)).cons (hS.get 1 rfl)
   obtain ⟨b2, ca, dJ, eC, eu⟩ := Kd.R_reads (show Kd.R (Kd.int .u8) 5 an a0.heap.size (fun _ => True) (sl _ 73) aw from hp 6 (by decide))
   have fv : Kd.R (Kd.int .u8) 5 an a0.heap.size (fun _ => True) (.slice b2 aw.length ca) aw := dJ ▸ (hp 6 (by decide))
   have hS := hS.cons dJ
   clear hp dJ
   show wpList _ _ _ [_] _ _
   refine list_step rfl (R := fun v w' => Below _ _ w' ∧ (IsV (.slice b2 aw.length ca)) v w') (does_val (x_assign rfl (hS.get 0 rfl)) rfl) ?_
   rintro eK bW ⟨hb, he⟩
   have dm := below_step cI.1 hb
   have cV := below_step cI.2.1 hb
   have co := below_step cI.2.2 hb
   have cp := below_step (bR an) hb
   obtain rfl : eK = .slice b2 aw.length ca := he
   replace hS := ((hS.nil).cons (hS.get 1 rfl)).cons (hS.get 0 rfl)
   refine hS.next (v := .slice b2 aw.length ca) (d := 6) rfl (by decide) (by rfl) ?_
   clear hS
   intro fi hS
   refine wpList_nil ?_
   refine en _ _ ?_
   refine reg_seq_tail 5 (I := I5_ w af a0 an bW) (ps := [IsV (.slice b2 aw.length ca), VP ac 22, VI bm, IsR (Kd.int .u8) 5 bW.heap.size aj, IsR (Kd.int .u8) 5 bW.heap.size aN]) (by kernel_rfl) ?_ ?_ rfl hS ⟨dm, cV, co, cp, (bR bW)⟩ ?_ ?_
   ·exact bs5
   ·exact .v (.v (.v (.cons (Stays.r _ _ _ _) (.cons (Stays.r _ _ _ _) (.nil)))))
   ·refine .ms 0 rfl rfl rfl ?_
    refine .on rfl (fun a w hS hI hp => does_val (x_fieldE (b := 0) rfl (hS.get 2 rfl) Try.underlying29 rfl rfl (by kernel_rfl)) rfl) ?_
    refine .on rfl (fun a w hS hI hp => does_val (x_load1 (d := .int .i64) rfl (hp.V 1 rfl rfl) (by kernel_rfl) rfl ((blk_cell (((hI.2.1).block ac (blk_lt aa)).trans aa) 22).trans rfl)) rfl) ?_
    refine .on rfl (fun a w hS hI hp => does_call (by kernel_rfl) (ar3 (hp.V 0 rfl rfl) (hp.V 2 rfl rfl) (rfl)) ((octets_Put.calls _ _ aw bm 1 aj _ (Kd.C_below eu hI.2.2.2.1) eC cy).mono fun _ _ h => h.elim fun v0 h => ⟨v0, h.1, h.2.2, Kd.R_lower h.2.1 hI.2.2.2.2.size⟩)) ?_
    refine .on rfl (fun a w hS hI hp => (IsC.of_r (hp.V 3 rfl rfl)).elim fun A_ h_ => h_.elim fun c_ h_ => h_.elim fun hv_ h_ => h_.elim fun hl_ hc_ => does_call (by kernel_rfl) (ar3 (hv_) (rfl) (rfl)) ((octets_Put.calls _ _ aj 0 1 aN _ hc_ hl_ ea).mono fun _ _ h => h.elim fun v0 h => ⟨v0, h.1, h.2.2, Kd.R_lower h.2.1 hI.2.2.2.2.size⟩)) ?_
    exact .nil
   clear hS
   intro fk de hS bI hp
   replace hS := (hS.nil).cons (hS.get 0 rfl)
   obtain ⟨b4, cc, dK, eE, ew⟩ := Kd.R_reads (show Kd.R (Kd.int .u8) 5 de bW.heap.size (fun _ => True) (sl _ 78) aN from hp 4 (by decide))
   have fx : Kd.R (Kd.int .u8) 5 de bW.heap.size (fun _ => True) (.slice b4 aN.length cc) aN := dK ▸ (hp 4 (by decide))
   have hS := hS.cons dK
   clear hp dK
   show wpList _ _ _ [_] _ _
   refine list_step rfl (R := fun v w' => Below _ _ w' ∧ (IsV (.slice b4 aN.length cc)) v w') (does_val (x_assign rfl (hS.get 0 rfl)) rfl) ?_
   rintro eM fE ⟨hb, he⟩
   have dp := below_step bI.1 hb
   have eQ := below_step bI.2.1 hb
   have dV := below_step bI.2.2.1 hb
   have dW := below_step bI.2.2.2.1 hb
   have dX := below_step bI.2.2.2.2 hb
   have ct := below_step (bR de) hb
   obtain rfl : eM = .slice b4 aN.length cc := he
   replace hS := (hS.nil).cons (hS.get 0 rfl)
   refine hS.next (v := .slice b4 aN.length cc) (d := 6) rfl (by decide) (by rfl) ?_
   clear hS
   intro fm hS
   refine wpList_nil ?_
   replace hS := (hS.nil).cons (hS.get 0 rfl)
   (try simp only [Exit.then, Exit.inBlock])
   exact J3 _ _ aN b4 cc H hS dp eE (Kd.C_below ew ct)
  obtain ⟨bx, dh, H⟩ := Option.bind_eq_some_iff.mp H
  by_cases c2 : bx = true
  rotate_left
  ·rw [if_neg c2] at H
   refine wp_seq_k (fun eT cC => ?_)
   refine reg_seq (I := I2_ w bX) (ps := [VP ai 0, VI aq, VB bx]) (by kernel_rfl) ?_ ?_ rfl hS ⟨cX, (bR bX)⟩ ?_ ?_
   ·exact bs2
   ·exact .v (.v (.v (.nil)))
   ·refine .on rfl (fun a w hS hI hp => does_val (x_fieldE (b := 0) rfl (hS.get 0 rfl) Try.underlying29 rfl rfl (by kernel_rfl)) rfl) ?_
    refine .on rfl (fun a w hS hI hp => does_val (x_load1 (d := .int .i64) rfl (hp.V 0 rfl rfl) (by kernel_rfl) rfl ((blk_cell (((hI.2).block ai (blk_lt ad)).trans ad) 0).trans rfl)) rfl) ?_
    refine .on rfl (fun a w hS hI hp => does_call (by kernel_rfl) (ar1 (hp.V 1 rfl rfl)) ((body_targeted.calls aq bx _  dh).mono fun _ _ h => ⟨_, h.1, h.2.below, rfl⟩)) ?_
    exact .nil
   clear hS
   intro ei bV hS a1 hp
   have cE : sl _ 26 = .bool bx := hp 2 (by decide)
   have hS := hS.cons cE
   clear hp cE
   refine cC _ _ ?_
   refine wp_cond_false ((hS.get 0 rfl).trans (bF (Bool.eq_false_iff.2 c2))) ?_
   refine wp_skip ?_
   replace hS := ((hS.nil).cons (hS.get 2 rfl)).cons (hS.get 1 rfl)
   (try simp only [Exit.then, Exit.inBlock])
   exact J2 _ _ aq bK bL bM bN bO bP bQ bS ax ao a2 a3 a4 a5 a6 a7 a8 a9 ba bb bc bd ai bA b6 ce H hS a1.1 cj ((a1.2.block ai (blk_lt ad)).trans ad) dO (Kd.C_below ds a1.2)
  rw [if_pos c2] at H
  obtain ⟨aL, d1, H⟩ := Option.bind_eq_some_iff.mp H
  refine wp_seq_k (fun eT cC => ?_)
  refine reg_seq (I := I2_ w bX) (ps := [VP ai 0, VI aq, VB bx]) (by kernel_rfl) ?_ ?_ rfl hS ⟨cX, (bR bX)⟩ ?_ ?_
  ·exact bs2
  ·exact .v (.v (.v (.nil)))
  ·refine .on rfl (fun a w hS hI hp => does_val (x_fieldE (b := 0) rfl (hS.get 0 rfl) Try.underlying29 rfl rfl (by kernel_rfl)) rfl) ?_
   refine .on rfl (fun a w hS hI hp => does_val (x_load1 (d := .int .i64) rfl (hp.V 0 rfl rfl) (by kernel_rfl) rfl ((blk_cell (((hI.2).block ai (blk_lt ad)).trans ad) 0).trans rfl)) rfl) ?_
   refine .on rfl (fun a w hS hI hp => does_call (by kernel_rfl) (ar1 (hp.V 1 rfl rfl)) ((body_targeted.calls aq bx _  dh).mono fun _ _ h => ⟨_, h.1, h.2.below, rfl⟩)) ?_
   exact .nil
  clear hS
  intro ei bV hS a1 hp
  have cE : sl _ 26 = .bool bx := hp 2 (by decide)
  have hS := hS.cons cE
  clear hp cE
  refine cC _ _ ?_
  refine wp_cond_true ((hS.get 0 rfl).trans (bT c2)) ?_
  refine reg_seq_tail 4 (I := I3_ w bX bV) (ps := [IsV (.slice b6 bA.length ce), VP ai 9, IsV (.agg #[.int .u64 ax, .int .i64 ao]), IsR (Kd.int .u8) 5 bV.heap.size aL]) (by kernel_rfl) ?_ ?_ rfl hS ⟨a1.1, a1.2, (bR bV)⟩ ?_ ?_
  ·exact bs3
  ·exact .v (.v (.v (.cons (Stays.r _ _ _ _) (.nil))))
  ·refine .ms 2 rfl rfl rfl ?_
   refine .on rfl (fun a w hS hI hp => does_val (x_fieldE (b := 0) rfl (hS.get 1 rfl) Try.underlying29 rfl rfl (by kernel_rfl)) rfl) ?_
   refine .on rfl (fun a w hS hI hp => does_loadmid (cs := [.int .u64 ax, .int .i64 ao]) rfl (hp.V 1 rfl rfl) (((hI.2.1).block ai (blk_lt ad)).trans ad) (by kernel_rfl) Try.underlying25 rfl (by kernel_rfl) rfl) ?_
   refine .on rfl (fun a w hS hI hp => does_call (by kernel_rfl) (ar2 (hp.V 0 rfl rfl) (hp.V 2 rfl rfl)) ((ident_Put.calls _ _ bA ax ao aL _ (Kd.C_below ds hI.2.1) dO d1).mono fun _ _ h => h.elim fun v0 h => ⟨v0, h.1, h.2.2, Kd.R_lower h.2.1 hI.2.2.size⟩)) ?_
   exact .nil
  clear hS
  intro fb dd hS cG hp
  replace hS := ((hS.nil).cons (hS.get 2 rfl)).cons (hS.get 1 rfl)
  obtain ⟨bZ, b7, dE, ez, er⟩ := Kd.R_reads (show Kd.R (Kd.int .u8) 5 dd bV.heap.size (fun _ => True) (sl _ 30) aL from hp 3 (by decide))
  have fs : Kd.R (Kd.int .u8) 5 dd bV.heap.size (fun _ => True) (.slice bZ aL.length b7) aL := dE ▸ (hp 3 (by decide))
  have hS := hS.cons dE
  clear hp dE
  show wpList _ _ _ [_] _ _
  refine list_step rfl (R := fun v w' => Below _ _ w' ∧ (IsV (.slice bZ aL.length b7)) v w') (does_val (x_assign rfl (hS.get 0 rfl)) rfl) ?_
  rintro eH fC ⟨hb, he⟩
  have dj := below_step cG.1 hb
  have cT := below_step cG.2.1 hb
  have dR := below_step cG.2.2 hb
  have ck := below_step (bR dd) hb
  obtain rfl : eH = .slice bZ aL.length b7 := he
  replace hS := ((hS.nil).cons (hS.get 1 rfl)).cons (hS.get 0 rfl)
  refine hS.next (v := .slice bZ aL.length b7) (d := 6) rfl (by decide) (by rfl) ?_
  clear hS
  intro fc hS
  refine wpList_nil ?_
  replace hS := ((hS.nil).cons (hS.get 0 rfl)).cons (hS.get 2 rfl)
  (try simp only [Exit.then, Exit.inBlock])
  exact J2 _ _ aq bK bL bM bN bO bP bQ bS ax ao a2 a3 a4 a5 a6 a7 a8 a9 ba bb bc bd ai aL bZ b7 H hS dj cj ((cT.block ai (blk_lt ad)).trans ad) ez (Kd.C_below er ck)
 obtain ⟨cJ, d2, H⟩ := Option.bind_eq_some_iff.mp H
 by_cases c2 : cJ = true
 rotate_left
 ·rw [if_neg c2] at H
  refine wp_seq_k (fun fa dC => ?_)
  refine reg_seq (I := I3_ w w3 dz) (ps := [VP g4 0, VI ar, VB cJ]) (by kernel_rfl) ?_ ?_ rfl hS ⟨bY.1, bY.2.1, (bR dz)⟩ ?_ ?_
  ·exact bs3
  ·exact .v (.v (.v (.nil)))
  ·refine .on rfl (fun a w hS hI hp => does_val (x_fieldE (b := 0) rfl (hS.get 1 rfl) Try.underlying29 rfl rfl (by kernel_rfl)) rfl) ?_
   refine .on rfl (fun a w hS hI hp => does_val (x_load1 (d := .int .i64) rfl (hp.V 0 rfl rfl) (by kernel_rfl) rfl ((blk_cell (((hI.2.1).block g4 (blk_lt ag)).trans ag) 0).trans rfl)) rfl) ?_
   refine .on rfl (fun a w hS hI hp => does_call (by kernel_rfl) (ar1 (hp.V 1 rfl rfl)) ((body_stamped.calls ar cJ _  d2).mono fun _ _ h => ⟨_, h.1, h.2.below, rfl⟩)) ?_
   exact .nil
  clear hS
  intro e3 cY hS ch hp
  have cD : sl _ 19 = .bool cJ := hp 2 (by decide)
  have hS := hS.cons cD
  clear hp cD
  refine dC _ _ ?_
  refine wp_cond_false ((hS.get 0 rfl).trans (bF (Bool.eq_false_iff.2 c2))) ?_
  refine wp_skip ?_
  replace hS := ((hS.nil).cons (hS.get 1 rfl)).cons (hS.get 2 rfl)
  (try simp only [Exit.then, Exit.inBlock])
  exact J1 _ _ ar bp bq br bs bt bu bv aS bw ay az aA aB aC aD aE aF aG aH aI aJ aK g4 l0 A0 l0.length H hS ch.1 c6 ((ch.2.1.block g4 (blk_lt ag)).trans ag) (Nat.le_refl _) (Kd.C_below HR0 ch.1)
 rw [if_pos c2] at H
 obtain ⟨cg, e1, H⟩ := Option.bind_eq_some_iff.mp H
 refine wp_seq_k (fun fa dC => ?_)
 refine reg_seq (I := I3_ w w3 dz) (ps := [VP g4 0, VI ar, VB cJ]) (by kernel_rfl) ?_ ?_ rfl hS ⟨bY.1, bY.2.1, (bR dz)⟩ ?_ ?_
 ·exact bs3
 ·exact .v (.v (.v (.nil)))
 ·refine .on rfl (fun a w hS hI hp => does_val (x_fieldE (b := 0) rfl (hS.get 1 rfl) Try.underlying29 rfl rfl (by kernel_rfl)) rfl) ?_
  refine .on rfl (fun a w hS hI hp => does_val (x_load1 (d := .int .i64) rfl (hp.V 0 rfl rfl) (by kernel_rfl) rfl ((blk_cell (((hI.2.1).block g4 (blk_lt ag)).trans ag) 0).trans rfl)) rfl) ?_
  refine .on rfl (fun a w hS hI hp => does_call (by kernel_rfl) (ar1 (hp.V 1 rfl rfl)) ((body_stamped.calls ar cJ _  d2).mono fun _ _ h => ⟨_, h.1, h.2.below, rfl⟩)) ?_
  exact .nil
 clear hS
 intro e3 cY hS ch hp
 have cD : sl _ 19 = .bool cJ := hp 2 (by decide)
 have hS := hS.cons cD
 clear hp cD
 refine dC _ _ ?_
 refine wp_cond_true ((hS.get 0 rfl).trans (bT c2)) ?_
 refine reg_seq_tail 4 (I := I3_ w w3 cY) (ps := [IsV (.slice A0 l0.length l0.length), VP g4 8, VI aS, IsR (Kd.int .u8) 5 cY.heap.size cg]) (by kernel_rfl) ?_ ?_ rfl hS ⟨ch.1, ch.2.1, (bR cY)⟩ ?_ ?_
 ·exact bs3
 ·exact .v (.v (.v (.cons (Stays.r _ _ _ _) (.nil))))
 ·refine .ms 1 rfl rfl rfl ?_
  refine .on rfl (fun a w hS hI hp => does_val (x_fieldE (b := 0) rfl (hS.get 2 rfl) Try.underlying29 rfl rfl (by kernel_rfl)) rfl) ?_
  refine .on rfl (fun a w hS hI hp => does_val (x_load1 (d := .int .i64) rfl (hp.V 1 rfl rfl) (by kernel_rfl) rfl ((blk_cell (((hI.2.1).block g4 (blk_lt ag)).trans ag) 8).trans rfl)) rfl) ?_
  refine .on rfl (fun a w hS hI hp => does_call (by kernel_rfl) (ar2 (hp.V 0 rfl rfl) (hp.V 2 rfl rfl)) ((stamp_Put.calls _ _ l0 aS cg _ (Kd.C_below HR0 hI.1) (Nat.le_refl _) e1).mono fun _ _ h => h.elim fun v0 h => ⟨v0, h.1, h.2.2, Kd.R_lower h.2.1 hI.2.2.size⟩)) ?_
  exact .nil
 clear hS
 intro fH eO hS dL hp
 replace hS := ((hS.nil).cons (hS.get 2 rfl)).cons (hS.get 1 rfl)
 obtain ⟨dg, di, dD, e6, e5⟩ := Kd.R_reads (show Kd.R (Kd.int .u8) 5 eO cY.heap.size (fun _ => True) (sl _ 23) cg from hp 3 (by decide))
 have fJ : Kd.R (Kd.int .u8) 5 eO cY.heap.size (fun _ => True) (.slice dg cg.length di) cg := dD ▸ (hp 3 (by decide))
 have hS := hS.cons dD
 clear hp dD
 show wpList _ _ _ [_] _ _
 refine list_step rfl (R := fun v w' => Below _ _ w' ∧ (IsV (.slice dg cg.length di)) v w') (does_val (x_assign rfl (hS.get 0 rfl)) rfl) ?_
 rintro e7 fK ⟨hb, he⟩
 have dP := below_step dL.1 hb
 have dA := below_step dL.2.1 hb
 have eX := below_step dL.2.2 hb
 have dr := below_step (bR eO) hb
 obtain rfl : e7 = .slice dg cg.length di := he
 replace hS := ((hS.nil).cons (hS.get 2 rfl)).cons (hS.get 0 rfl)
 refine hS.next (v := .slice dg cg.length di) (d := 6) rfl (by decide) (by rfl) ?_
 clear hS
 intro fI hS
 refine wpList_nil ?_
 replace hS := ((hS.nil).cons (hS.get 0 rfl)).cons (hS.get 2 rfl)
 (try simp only [Exit.then, Exit.inBlock])
 exact J1 _ _ ar bp bq br bs bt bu bv aS bw ay az aA aB aC aD aE aF aG aH aI aJ aK g4 cg dg di H hS dP c6 ((dA.block g4 (blk_lt ag)).trans ag) e6 (Kd.C_below e5 dr)
/-! ### body_Len: function 12 -/
mutual
def body_Len.j0 : Nat → Int → Bool → Option (Int)
  | 0, _, _ => none
  | k + 1, x3, x4 => if x4 = true then (some 10) else (if x3 = 2 then (body_Len.j1 k x3 (x3 == 2)) else (if x3 = 3 then (body_Len.j1 k x3 (x3 == 3)) else (if x3 = 10 then (body_Len.j1 k x3 (x3 == 10)) else (body_Len.j1 k x3 (x3 == 9)))))
def body_Len.j1 : Nat → Int → Bool → Option (Int)
  | 0, _, _ => none
  | k + 1, x3, x9 => if x9 = true then (some 20) else (if x3 = 11 then (some 30) else (if x3 = 13 then (some 14) else (some 0)))
end
def body_Len.f (k : Nat) (a0 : Int) : Option (Int) := if a0 = 0 then (body_Len.j0 k a0 (a0 == 0)) else (if a0 = 1 then (body_Len.j0 k a0 (a0 == 1)) else (if a0 = 8 then (body_Len.j0 k a0 (a0 == 8)) else (body_Len.j0 k a0 (a0 == 12))))
set_option maxHeartbeats 8000000 in
set_option maxRecDepth 100000 in
theorem body_Len.calls (k : Nat) (a0 : Int) (r : Int) (w : World) (h : body_Len.f k a0 = some r) :
    Calls Try.prog 12 #[.int .i64 a0] w fun e w' => e = .returned (.int .i64 r) ∧ Drawn0 w w' := by
  have H : (if a0 = 0 then (body_Len.j0 k a0 (a0 == 0)) else (if a0 = 1 then (body_Len.j0 k a0 (a0 == 1)) else (if a0 = 8 then (body_Len.j0 k a0 (a0 == 8)) else (body_Len.j0 k a0 (a0 == 12))))) = some r := h
  clear h
  have HC2 := Aside0.mk H
  clear H
  go_enter Try.func12, Try.ntmps12
  go_upto_if 4 with (fail)
  go_cut [4] (fun v4 wc => ∃ (kq : Nat) (x4_1 : Bool), v4 = .bool x4_1 ∧ Aside0 (body_Len.j0 kq a0 x4_1 = some r) ∧ Aside0 (kq ≤ k) ∧ Drawn0 w wc)
  case first =>
    have H := HC2.out
    clear HC2
    by_cases c3 : a0 = 0
    · rw [if_pos c3] at H
      have c3b0 : (a0 == 0) = true := beq_iff_eq.mpr c3
      have c3b1 : (a0 != 0) = false := bne_eq_false_iff_eq.mpr c3
      clear c3
      (first | rw [c3b0] | (simp only [i64_w, i32_w]; rw [c3b0]) | skip)
      have H' := Aside0.mk H
      clear H
      go_wp2
      go_meet
      case rel => exact ⟨_, ((a0 == 0)), (by first | rfl | (simp; done) | (simp [*]; done)), H', ⟨by first | omega | exact Nat.le_refl _⟩, by repeat (first | exact Drawn0.refl _ | apply Drawn0.step)⟩
    · rw [if_neg c3] at H
      have c3b0 : (a0 == 0) = false := beq_eq_false_iff_ne.mpr c3
      have c3b1 : (a0 != 0) = true := bne_iff_ne.mpr c3
      (first | rw [c3b0] | (simp only [i64_w, i32_w]; rw [c3b0]) | skip)
      by_cases c4 : a0 = 1
      · rw [if_pos c4] at H
        have c4b0 : (a0 == 1) = true := beq_iff_eq.mpr c4
        have c4b1 : (a0 != 1) = false := bne_eq_false_iff_eq.mpr c4
        clear c4
        have H' := Aside0.mk H
        clear H
        go_wp2
        go_meet
        case rel => exact ⟨_, ((a0 == 1)), (by first | rfl | (simp; done) | (simp [*]; done)), H', ⟨by first | omega | exact Nat.le_refl _⟩, by repeat (first | exact Drawn0.refl _ | apply Drawn0.step)⟩
      · rw [if_neg c4] at H
        have c4b0 : (a0 == 1) = false := beq_eq_false_iff_ne.mpr c4
        have c4b1 : (a0 != 1) = true := bne_iff_ne.mpr c4
        by_cases c5 : a0 = 8
        · rw [if_pos c5] at H
          have c5b0 : (a0 == 8) = true := beq_iff_eq.mpr c5
          have c5b1 : (a0 != 8) = false := bne_eq_false_iff_eq.mpr c5
          clear c5
          have H' := Aside0.mk H
          clear H
          go_wp2
          go_meet
          case rel => exact ⟨_, ((a0 == 8)), (by first | rfl | (simp; done) | (simp [*]; done)), H', ⟨by first | omega | exact Nat.le_refl _⟩, by repeat (first | exact Drawn0.refl _ | apply Drawn0.step)⟩
        · rw [if_neg c5] at H
          have c5b0 : (a0 == 8) = false := beq_eq_false_iff_ne.mpr c5
          have c5b1 : (a0 != 8) = true := bne_iff_ne.mpr c5
          have H' := Aside0.mk H
          clear H
          go_wp2
          go_meet
          case rel => exact ⟨_, ((a0 == 12)), (by first | rfl | (simp; done) | (simp [*]; done)), H', ⟨by first | omega | exact Nat.le_refl _⟩, by repeat (first | exact Drawn0.refl _ | apply Drawn0.step)⟩
  case rest =>
    clear HC2
    try clear c1
    try clear p2
    try clear c3
    try clear c3b0
    try clear c3b1
    try clear c4
    try clear c4b0
    try clear c4b1
    try clear c5
    try clear c5b0
    try clear c5b1
    obtain ⟨kq, x4_1, rfl, HA, HJ1, ⟨mc1, rfl⟩⟩ := hcut
    cases kq with
    | zero => exact absurd HA.out (by simp [body_Len.j0])
    | succ kj1 =>
      have H := HA.out
      clear HA
      simp only [body_Len.j0] at H
      by_cases c6 : x4_1 = true
      · subst c6
        have H1 : (some 10) = some r := by rw [if_pos rfl] at H; exact H
        clear H
        have H := H1
        clear H1
        obtain rfl := Option.some.inj H
        go_wp2
        all_goals
          go_ret
          exact ⟨by first | rfl | (simp; done) | (simp [*]; done), by repeat (first | exact Drawn0.refl _ | apply Drawn0.step)⟩
      · replace c6 := Bool.eq_false_iff.mpr c6
        subst c6
        have H1 : (if a0 = 2 then (body_Len.j1 kj1 a0 (a0 == 2)) else (if a0 = 3 then (body_Len.j1 kj1 a0 (a0 == 3)) else (if a0 = 10 then (body_Len.j1 kj1 a0 (a0 == 10)) else (body_Len.j1 kj1 a0 (a0 == 9))))) = some r := by rw [if_neg (show ¬ (false = true) by decide)] at H; exact H
        clear H
        have H := H1
        clear H1
        have HC7 := Aside0.mk H
        clear H
        go_upto_if 9 with (fail)
        go_cut [9] (fun v9 wc => ∃ (kq : Nat) (x9_6 : Bool), v9 = .bool x9_6 ∧ Aside0 (body_Len.j1 kq a0 x9_6 = some r) ∧ Aside0 (kq ≤ kj1) ∧ Drawn0 w wc)
        case first =>
          have H := HC7.out
          clear HC7
          by_cases c8 : a0 = 2
          · rw [if_pos c8] at H
            have c8b0 : (a0 == 2) = true := beq_iff_eq.mpr c8
            have c8b1 : (a0 != 2) = false := bne_eq_false_iff_eq.mpr c8
            clear c8
            (first | rw [c8b0] | (simp only [i64_w, i32_w]; rw [c8b0]) | skip)
            have H' := Aside0.mk H
            clear H
            go_wp2
            go_meet
            case rel => exact ⟨_, ((a0 == 2)), (by first | rfl | (simp; done) | (simp [*]; done)), H', ⟨by have := HJ1.out; first | omega | exact Nat.le_refl _⟩, by repeat (first | exact Drawn0.refl _ | apply Drawn0.step)⟩
          · rw [if_neg c8] at H
            have c8b0 : (a0 == 2) = false := beq_eq_false_iff_ne.mpr c8
            have c8b1 : (a0 != 2) = true := bne_iff_ne.mpr c8
            (first | rw [c8b0] | (simp only [i64_w, i32_w]; rw [c8b0]) | skip)
            by_cases c9 : a0 = 3
            · rw [if_pos c9] at H
              have c9b0 : (a0 == 3) = true := beq_iff_eq.mpr c9
              have c9b1 : (a0 != 3) = false := bne_eq_false_iff_eq.mpr c9
              clear c9
              have H' := Aside0.mk H
              clear H
              go_wp2
              go_meet
              case rel => exact ⟨_, ((a0 == 3)), (by first | rfl | (simp; done) | (simp [*]; done)), H', ⟨by have := HJ1.out; first | omega | exact Nat.le_refl _⟩, by repeat (first | exact Drawn0.refl _ | apply Drawn0.step)⟩
            · rw [if_neg c9] at H
              have c9b0 : (a0 == 3) = false := beq_eq_false_iff_ne.mpr c9
              have c9b1 : (a0 != 3) = true := bne_iff_ne.mpr c9
              by_cases c10 : a0 = 10
              · rw [if_pos c10] at H
                have c10b0 : (a0 == 10) = true := beq_iff_eq.mpr c10
                have c10b1 : (a0 != 10) = false := bne_eq_false_iff_eq.mpr c10
                clear c10
                have H' := Aside0.mk H
                clear H
                go_wp2
                go_meet
                case rel => exact ⟨_, ((a0 == 10)), (by first | rfl | (simp; done) | (simp [*]; done)), H', ⟨by have := HJ1.out; first | omega | exact Nat.le_refl _⟩, by repeat (first | exact Drawn0.refl _ | apply Drawn0.step)⟩
              · rw [if_neg c10] at H
                have c10b0 : (a0 == 10) = false := beq_eq_false_iff_ne.mpr c10
                have c10b1 : (a0 != 10) = true := bne_iff_ne.mpr c10
                have H' := Aside0.mk H
                clear H
                go_wp2
                go_meet
                case rel => exact ⟨_, ((a0 == 9)), (by first | rfl | (simp; done) | (simp [*]; done)), H', ⟨by have := HJ1.out; first | omega | exact Nat.le_refl _⟩, by repeat (first | exact Drawn0.refl _ | apply Drawn0.step)⟩
        case rest =>
          clear HC7
          try clear c1
          try clear p2
          try clear c3
          try clear c3b0
          try clear c3b1
          try clear c4
          try clear c4b0
          try clear c4b1
          try clear c5
          try clear c5b0
          try clear c5b1
          try clear c6
          try clear c8
          try clear c8b0
          try clear c8b1
          try clear c9
          try clear c9b0
          try clear c9b1
          try clear c10
          try clear c10b0
          try clear c10b1
          try clear p2
          obtain ⟨kq, x9_6, rfl, HA, HJ6, ⟨mc6, rfl⟩⟩ := hcut
          cases kq with
          | zero => exact absurd HA.out (by simp [body_Len.j1])
          | succ kj6 =>
            have H := HA.out
            clear HA
            simp only [body_Len.j1] at H
            by_cases c11 : x9_6 = true
            · subst c11
              have H1 : (some 20) = some r := by rw [if_pos rfl] at H; exact H
              clear H
              have H := H1
              clear H1
              obtain rfl := Option.some.inj H
              go_wp2
              all_goals
                go_ret
                exact ⟨by first | rfl | (simp; done) | (simp [*]; done), by repeat (first | exact Drawn0.refl _ | apply Drawn0.step)⟩
            · replace c11 := Bool.eq_false_iff.mpr c11
              subst c11
              have H1 : (if a0 = 11 then (some 30) else (if a0 = 13 then (some 14) else (some 0))) = some r := by rw [if_neg (show ¬ (false = true) by decide)] at H; exact H
              clear H
              have H := H1
              clear H1
              by_cases c12 : a0 = 11
              · rw [if_pos c12] at H
                have c12b0 : (a0 == 11) = true := beq_iff_eq.mpr c12
                have c12b1 : (a0 != 11) = false := bne_eq_false_iff_eq.mpr c12
                clear c12
                obtain rfl := Option.some.inj H
                go_wp2
                all_goals
                  go_ret
                  exact ⟨by first | rfl | (simp; done) | (simp [*]; done), by repeat (first | exact Drawn0.refl _ | apply Drawn0.step)⟩
              · rw [if_neg c12] at H
                have c12b0 : (a0 == 11) = false := beq_eq_false_iff_ne.mpr c12
                have c12b1 : (a0 != 11) = true := bne_iff_ne.mpr c12
                by_cases c13 : a0 = 13
                · rw [if_pos c13] at H
                  have c13b0 : (a0 == 13) = true := beq_iff_eq.mpr c13
                  have c13b1 : (a0 != 13) = false := bne_eq_false_iff_eq.mpr c13
                  clear c13
                  obtain rfl := Option.some.inj H
                  go_wp2
                  all_goals
                    go_ret
                    exact ⟨by first | rfl | (simp; done) | (simp [*]; done), by repeat (first | exact Drawn0.refl _ | apply Drawn0.step)⟩
                · rw [if_neg c13] at H
                  have c13b0 : (a0 == 13) = false := beq_eq_false_iff_ne.mpr c13
                  have c13b1 : (a0 != 13) = true := bne_iff_ne.mpr c13
                  obtain rfl := Option.some.inj H
                  go_wp2
                  all_goals
                    go_ret
                    exact ⟨by first | rfl | (simp; done) | (simp [*]; done), by repeat (first | exact Drawn0.refl _ | apply Drawn0.step)⟩
end Go.Proofs.Ytpoocfapmgmfkaa.P
