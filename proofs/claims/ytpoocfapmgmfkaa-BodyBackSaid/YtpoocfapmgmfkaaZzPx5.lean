/- Functions and loops of the given program as Lean functions, and that the code comes to what they say: written by this session's own program; Lean checks it. -/
import Derived.Test.YtpoocfapmgmfkaaZzPx0
import Derived.Test.YtpoocfapmgmfkaaZzPx3
import Derived.Test.YtpoocfapmgmfkaaZzPx4
namespace Go.Proofs.Ytpoocfapmgmfkaa.P
open Go.RowKit Go.Proofs.YtpoocfapmgmfkaaW.PrintWords Go.Proofs.YtpoocfapmgmfkaaW.PrintLast Go.Proofs.YtpoocfapmgmfkaaW.PrintMore
attribute [local go_sem] max2_int min2_int max_two min_two max_three min_three max_four min_four   -- for this text's walks alone
set_option linter.unusedVariables false
set_option linter.unusedSimpArgs false
/-! ### ident_Put: function 22 -/
def ident_Put.f (l0 : List Int) (a1_0 : Int) (a1_1 : Int) : Option (List Int) := (octets_PutId.f l0 a1_0).bind fun t139 => ((octets_Put.f t139 a1_1 2).bind fun t142 => (some t142))
def ident_Put.T1 : Bool × List (List Nat × List Nat) := (true, [([], []), ([], []), ([1], [1]), ([0, 2], [0, 2]), ([], []), ([4], [4]), ([3, 5, 3], [3, 5]), ([6, 6, 0, 1, 2, 3, 4, 5, 6], [6])])
def ident_Put.B1 : List Nat := [0, 0, 2, 7, 0, 16, 63, 127]
theorem ident_Put.tab1 : rtab .any (opsOf Try.f22 1) = ident_Put.T1 := by kernel_rfl
theorem ident_Put.bits1 : waitsOk ident_Put.T1.2 ident_Put.B1 = true := by kernel_rfl
set_option maxHeartbeats 8000000 in
set_option maxRecDepth 100000 in
theorem ident_Put.calls (A0 : Option Addr) (c0 : Nat) (l0 : List Int) (a1_0 : Int) (a1_1 : Int) (r : List Int) (w : World) (hr0 : Kd.C (Kd.int .u8) w A0 l0.length l0) (hc0 : l0.length ≤ c0) (h : ident_Put.f l0 a1_0 a1_1 = some r) :
    Calls Try.prog 22 #[.slice A0 l0.length c0, .agg #[.int .u64 a1_0, .int .i64 a1_1]] w fun e w' => ∃ v0_ : Value, e = .returned (v0_) ∧ Kd.R (Kd.int .u8) 5 w' w.heap.size (fun _ => True) v0_ r ∧ Below w.heap.size w w' := by
  have hu25 := Try.underlying25
  have HR0 := Aside0.mk hr0
  have HC0 := Aside0.mk hc0
  clear hr0 hc0
  have HB := Aside0.mk (Below.refl w.heap.size w)
  have H : ((octets_PutId.f l0 a1_0).bind fun t139 => ((octets_Put.f t139 a1_1 2).bind fun t142 => (some t142))) = some r := h
  clear h
  replace H := Option.bind_eq_some_iff.mp H
  obtain ⟨t139, A30, H⟩ := H
  replace H : ((octets_Put.f t139 a1_1 2).bind fun t142 => (some t142)) = some r := H
  have A3 := Aside0.mk A30
  clear A30
  replace H := Option.bind_eq_some_iff.mp H
  obtain ⟨t142, A40, H⟩ := H
  replace H : (some t142) = some r := H
  have A4 := Aside0.mk A40
  clear A40
  obtain rfl := Option.some.inj H
  go_enter Try.func22, Try.ntmps22
  try go_wp2_with (first | ((with_reducible refine gate_dst (N := 3) rfl ?_); refine box_event ?hg (N := 3) ?hd (cs := #[.int .u64 a1_0, .int .i64 a1_1]) (t := 25) ?hr ?_; (case hd => rfl); (case hg => rfl); (case hr => first | (go_simp; done) | (go_simp; rfl)); intro gb138 hg w5 hbox hb; have n0_ := Aside0.mk (below_step (by repeat (first | (with_reducible first | exact HB.out | apply below_alloc | apply pw_below_drewN | apply below_drew1) | exact HB.out)) hb); have n1_ := Aside0.mk (hbox); have n2_ := Aside0.mk ((by rw [hg]; exact (below_size (by repeat (first | (with_reducible first | exact HB.out | apply below_alloc | apply pw_below_drewN | apply below_drew1) | exact HB.out))) : w.heap.size ≤ gb138)); have n3_ := Aside0.mk ((by rw [hg]; exact (below_size (by repeat (first | (with_reducible first | exact HB.out | apply below_alloc | apply pw_below_drewN | apply below_drew1) | exact HB.out))) : w.heap.size ≤ gb138)); clear HB; have HB := n0_; have BK138 := n1_; have GW138 := n2_; have GE138 := n3_; clear n0_ n1_ n2_ n3_; clear hb hbox hg))
  have n0_ := Aside0.mk (blk_drew BK138.out)
  have n1_ := Aside0.mk (below_drew1 HB.out)
  clear BK138
  clear HB
  have BK138 := n0_
  have HB := n1_
  clear n0_ n1_
  refine start_ (n := 8) (S := fun w' => w'.cell? ⟨gb138, 0, none⟩ = some (.int .u64 a1_0) ∧ w'.cell? ⟨gb138, 1, none⟩ = some (.int .i64 a1_1)) (ds := []) #[false, false, false, false, false, false, false, false] (by kernel_rfl) rfl rfl ⟨(blk_cell BK138.out 0).trans rfl, (blk_cell BK138.out 1).trans rfl⟩ (fun hHeld => ?_); refine with_tabW ident_Put.tab1 ident_Put.bits1 (fun HT_ HW_ => ?_)
  generalize w5.drew = w6 at BK138 HB hHeld ⊢
  refine pure_ (i := 0) (N := some 5) (v := ?_) (a' := ?_) #[true, false, false, false, false, false, false, false] rfl rfl (any_of HT_.out (by kernel_rfl)) (fun _ _ _ h => h) (Or.inl ⟨by rfl, ?_⟩) ?_ ?_
  rotate_left
  · intro w'
    go_simp
    with_reducible rfl
  rotate_left
  · simp only [Act.put, List.setIfInBounds_toArray, List.set_cons_zero, List.set_cons_succ, i64_w, i32_w]
    rfl
  refine pure_ (i := 1) (N := some 6) (v := ?_) (a' := ?_) #[true, true, false, false, false, false, false, false] rfl rfl (any_of HT_.out (by kernel_rfl)) (fun _ _ _ h => h) (Or.inl ⟨by rfl, ?_⟩) ?_ ?_
  rotate_left
  · intro w'
    go_simp
    with_reducible rfl
  rotate_left
  · simp only [Act.put, List.setIfInBounds_toArray, List.set_cons_zero, List.set_cons_succ, i64_w, i32_w]
    rfl
  refine pure_ (i := 4) (N := some 9) (v := ?_) (a' := ?_) #[true, true, false, false, true, false, false, false] rfl rfl (any_of HT_.out (by kernel_rfl)) (fun _ _ _ h => h) (Or.inl ⟨by rfl, ?_⟩) ?_ ?_
  rotate_left
  · intro w'
    go_simp
    with_reducible rfl
  rotate_left
  · simp only [Act.put, List.setIfInBounds_toArray, List.set_cons_zero, List.set_cons_succ, i64_w, i32_w]
    rfl
  refine take_ (i := 2) (N := some 7) (v := ?_) (a' := ?_) #[true, true, true, false, true, false, false, false] rfl rfl (take_ofW HT_.out HW_.out (by kernel_rfl)) (fun _ _ _ h => h) (Or.inl ⟨by rfl, ?_⟩) hHeld ?_ ?_
  rotate_left
  · rintro w' ⟨s0, s1⟩
    go_simp
    with_reducible rfl
  rotate_left
  · simp only [Act.put, List.setIfInBounds_toArray, List.set_cons_zero, List.set_cons_succ, i64_w, i32_w]
    rfl
  refine take_ (i := 5) (N := some 10) (v := ?_) (a' := ?_) #[true, true, true, false, true, true, false, false] rfl rfl (take_ofW HT_.out HW_.out (by kernel_rfl)) (fun _ _ _ h => h) (Or.inl ⟨by rfl, ?_⟩) hHeld ?_ ?_
  rotate_left
  · rintro w' ⟨s0, s1⟩
    go_simp
    with_reducible rfl
  rotate_left
  · simp only [Act.put, List.setIfInBounds_toArray, List.set_cons_zero, List.set_cons_succ, i64_w, i32_w]
    rfl
  refine one_ (i := 3) (N := some 8) #[true, true, true, true, true, true, false, false] rfl rfl (one_of HT_.out (by kernel_rfl)) (by decide) (fun K hK => ?_)
  refine goes_ Try.func25 (by kernel_rfl) rfl #[.slice A0 l0.length c0, .int .u64 a1_0] (by rfl) rfl rfl (by (try simp only [List.map_toArray, List.map_cons, List.map_nil]); first | done | rfl | (simp only [List.length_drop, List.length_take]; rfl)) ?_
  with_reducible refine (octets_PutId.calls _ _ l0 a1_0 t139 _ ?side1 ?side2 A3.out).mono ?_
  (case side1 => repeat (first | exact (Kd.C_below HR0.out HB.out) | (with_reducible refine Kd.C_alloc ?_ _) | (with_reducible refine Kd.C_drewN ?_ _) | (with_reducible refine Kd.C_drew ?_)))
  (case side2 => exact HC0.out)
  rintro e w7 ⟨v140, rfl, ho0, hb⟩
  refine ⟨_, rfl, ?_⟩
  have n0_ := Aside0.mk (Kd.R_lower ho0 (below_size (by repeat (first | (with_reducible first | exact HB.out | apply below_alloc | apply pw_below_drewN | apply below_drew1 | refine below_set ?_ GE138.out) | exact HB.out))))
  have n1_ := Aside0.mk (blk_below (g := gb138) (o := .cells #[.int .u64 a1_0, .int .i64 a1_1] 25 (0, 0)) (by (with_reducible repeat (first | refine blk_drewN ?_ _ | refine blk_drew ?_ | refine blk_alloc ?_ _)); exact BK138.out) hb)
  have n2_ := Aside0.mk (below_step (by repeat (first | (with_reducible first | exact HB.out | apply below_alloc | apply pw_below_drewN | apply below_drew1 | refine below_set ?_ GE138.out) | exact HB.out)) hb)
  clear BK138
  clear HB
  have HO141 := n0_
  have BK138 := n1_
  have HB := n2_
  clear n0_ n1_ n2_
  (try clear hb)
  (try clear hb2)
  (try clear hk)
  (try clear hi)
  (try clear ho0)
  obtain ⟨Ao8, co8, eo8⟩ := Kd.R_slice HO141.out
  (first | subst eo8 | (injection eo8 with f1_ f2_ f3_; have f4_ := f1_.symm; have f5_ := f3_.symm; clear f1_ f2_ f3_; subst f4_; subst f5_))
  refine hK.out _ _ ⟨(blk_cell BK138.out 0).trans rfl, (blk_cell BK138.out 1).trans rfl⟩ (fun hHeld => ?_)
  clear hK K
  refine norm_ (a' := ?_) ?_ ?_
  rotate_left
  · show Act.put _ (some 8) _ = _
    simp only [Act.put, List.setIfInBounds_toArray, List.set_cons_zero, List.set_cons_succ, i64_w, i32_w]
    rfl
  refine one_ (i := 6) (N := some 11) #[true, true, true, true, true, true, true, false] rfl rfl (one_of HT_.out (by kernel_rfl)) (by decide) (fun K hK => ?_)
  refine goes_ Try.func23 (by kernel_rfl) rfl #[.slice Ao8 t139.length co8, .int .i64 a1_1, .int .i64 2] (by rfl) rfl rfl (by (try simp only [List.map_toArray, List.map_cons, List.map_nil]); first | done | rfl | (simp only [List.length_drop, List.length_take]; rfl)) ?_
  with_reducible refine (octets_Put.calls _ _ t139 a1_1 2 t142 _ ?side1 ?side2 A4.out).mono ?_
  (case side1 => repeat (first | exact (Kd.R_reads' HO141.out).2.2 | (with_reducible refine Kd.C_alloc ?_ _) | (with_reducible refine Kd.C_drewN ?_ _) | (with_reducible refine Kd.C_drew ?_)))
  (case side2 => exact (Kd.R_reads' HO141.out).2.1)
  rintro e w9 ⟨v143, rfl, ho0, hb⟩
  refine ⟨_, rfl, ?_⟩
  have n0_ := Aside0.mk (Kd.R_elder' (by (with_reducible repeat (first | apply Kd.R_alloc | apply Kd.R_drewN | apply Kd.R_drew)); exact HO141.out) (Kd.R_base ho0) hb)
  have n1_ := Aside0.mk (Kd.R_lower (Kd.R_new' ho0 (Kd.R_lt (by (with_reducible repeat (first | apply Kd.R_alloc | apply Kd.R_drewN | apply Kd.R_drew)); exact HO141.out))) (below_size (by repeat (first | (with_reducible first | exact HB.out | apply below_alloc | apply pw_below_drewN | apply below_drew1 | refine below_set ?_ GE138.out) | exact HB.out))))
  have n2_ := Aside0.mk (blk_below (g := gb138) (o := .cells #[.int .u64 a1_0, .int .i64 a1_1] 25 (0, 0)) (by (with_reducible repeat (first | refine blk_drewN ?_ _ | refine blk_drew ?_ | refine blk_alloc ?_ _)); exact BK138.out) hb)
  have n3_ := Aside0.mk (below_step (by repeat (first | (with_reducible first | exact HB.out | apply below_alloc | apply pw_below_drewN | apply below_drew1 | refine below_set ?_ GE138.out) | exact HB.out)) hb)
  clear HO141
  clear BK138
  clear HB
  have HO141 := n0_
  have HO144 := n1_
  have BK138 := n2_
  have HB := n3_
  clear n0_ n1_ n2_ n3_
  (try clear hb)
  (try clear hb2)
  (try clear hk)
  (try clear hi)
  (try clear ho0)
  refine hK.out _ _ ⟨(blk_cell BK138.out 0).trans rfl, (blk_cell BK138.out 1).trans rfl⟩ (fun hHeld => ?_)
  clear hK K
  refine norm_ (a' := ?_) ?_ ?_
  rotate_left
  · show Act.put _ (some 11) _ = _
    simp only [Act.put, List.setIfInBounds_toArray, List.set_cons_zero, List.set_cons_succ, i64_w, i32_w]
    rfl
  refine pure_ (i := 7) (N := some 4) (v := ?_) (a' := ?_) #[true, true, true, true, true, true, true, true] rfl rfl (any_of HT_.out (by kernel_rfl)) (fun _ _ _ h => h) (Or.inl ⟨by rfl, ?_⟩) ?_ ?_
  rotate_left
  · intro w'
    go_simp
    with_reducible rfl
  rotate_left
  · simp only [Act.put, List.setIfInBounds_toArray, List.set_cons_zero, List.set_cons_succ, i64_w, i32_w]
    rfl
  refine done_ (done_of HT_.out (by kernel_rfl)) ?_
  try go_wp2
  all_goals
    go_ret
    exact ⟨_, by first | rfl | (simp [errW_none, errW_some] <;> rfl) | (simp [*, errW_none, errW_some] <;> rfl), by (with_reducible repeat (first | apply Kd.R_alloc | apply Kd.R_drewN | apply Kd.R_drew)); exact Kd.R_mono HO144.out (fun _ hk => trivial), by repeat (first | (with_reducible first | exact HB.out | apply below_alloc | apply pw_below_drewN | apply below_drew1 | refine below_set ?_ GE138.out) | exact HB.out)⟩
/-! ### quality_Put: function 24 -/
def quality_Put.f (l0 : List Int) (a1_0 : Int) (a1_1 : Int) (a1_2 : Int) : Option (List Int) := (octets_Put.f l0 a1_0 1).bind fun t146 => ((octets_Put.f t146 a1_1 1).bind fun t149 => ((octets_Put.f t149 a1_2 2).bind fun t152 => (some t152)))
def quality_Put.T1 : Bool × List (List Nat × List Nat) := (true, [([], []), ([], []), ([1], [1]), ([0, 2], [0, 2]), ([], []), ([4], [4]), ([3, 5, 3], [3, 5]), ([], []), ([7], [7]), ([6, 8, 6], [6, 8]), ([9, 9, 0, 1, 2, 3, 4, 5, 6, 7, 8, 9], [9])])
def quality_Put.B1 : List Nat := [0, 0, 2, 7, 0, 16, 63, 0, 128, 511, 1023]
theorem quality_Put.tab1 : rtab .any (opsOf Try.f24 1) = quality_Put.T1 := by kernel_rfl
theorem quality_Put.bits1 : waitsOk quality_Put.T1.2 quality_Put.B1 = true := by kernel_rfl
set_option maxHeartbeats 8000000 in
set_option maxRecDepth 100000 in
theorem quality_Put.calls (A0 : Option Addr) (c0 : Nat) (l0 : List Int) (a1_0 : Int) (a1_1 : Int) (a1_2 : Int) (r : List Int) (w : World) (hr0 : Kd.C (Kd.int .u8) w A0 l0.length l0) (hc0 : l0.length ≤ c0) (h : quality_Put.f l0 a1_0 a1_1 a1_2 = some r) :
    Calls Try.prog 24 #[.slice A0 l0.length c0, .agg #[.int .i64 a1_0, .int .i64 a1_1, .int .i64 a1_2]] w fun e w' => ∃ v0_ : Value, e = .returned (v0_) ∧ Kd.R (Kd.int .u8) 5 w' w.heap.size (fun _ => True) v0_ r ∧ Below w.heap.size w w' := by
  have hu27 := Try.underlying27
  have HR0 := Aside0.mk hr0
  have HC0 := Aside0.mk hc0
  clear hr0 hc0
  have HB := Aside0.mk (Below.refl w.heap.size w)
  have H : ((octets_Put.f l0 a1_0 1).bind fun t146 => ((octets_Put.f t146 a1_1 1).bind fun t149 => ((octets_Put.f t149 a1_2 2).bind fun t152 => (some t152)))) = some r := h
  clear h
  replace H := Option.bind_eq_some_iff.mp H
  obtain ⟨t146, A30, H⟩ := H
  replace H : ((octets_Put.f t146 a1_1 1).bind fun t149 => ((octets_Put.f t149 a1_2 2).bind fun t152 => (some t152))) = some r := H
  have A3 := Aside0.mk A30
  clear A30
  replace H := Option.bind_eq_some_iff.mp H
  obtain ⟨t149, A40, H⟩ := H
  replace H : ((octets_Put.f t149 a1_2 2).bind fun t152 => (some t152)) = some r := H
  have A4 := Aside0.mk A40
  clear A40
  replace H := Option.bind_eq_some_iff.mp H
  obtain ⟨t152, A50, H⟩ := H
  replace H : (some t152) = some r := H
  have A5 := Aside0.mk A50
  clear A50
  obtain rfl := Option.some.inj H
  go_enter Try.func24, Try.ntmps24
  try go_wp2_with (first | ((with_reducible refine gate_dst (N := 3) rfl ?_); refine box_event ?hg (N := 3) ?hd (cs := #[.int .i64 a1_0, .int .i64 a1_1, .int .i64 a1_2]) (t := 27) ?hr ?_; (case hd => rfl); (case hg => rfl); (case hr => first | (go_simp; done) | (go_simp; rfl)); intro gb145 hg w6 hbox hb; have n0_ := Aside0.mk (below_step (by repeat (first | (with_reducible first | exact HB.out | apply below_alloc | apply pw_below_drewN | apply below_drew1) | exact HB.out)) hb); have n1_ := Aside0.mk (hbox); have n2_ := Aside0.mk ((by rw [hg]; exact (below_size (by repeat (first | (with_reducible first | exact HB.out | apply below_alloc | apply pw_below_drewN | apply below_drew1) | exact HB.out))) : w.heap.size ≤ gb145)); have n3_ := Aside0.mk ((by rw [hg]; exact (below_size (by repeat (first | (with_reducible first | exact HB.out | apply below_alloc | apply pw_below_drewN | apply below_drew1) | exact HB.out))) : w.heap.size ≤ gb145)); clear HB; have HB := n0_; have BK145 := n1_; have GW145 := n2_; have GE145 := n3_; clear n0_ n1_ n2_ n3_; clear hb hbox hg))
  have n0_ := Aside0.mk (blk_drew BK145.out)
  have n1_ := Aside0.mk (below_drew1 HB.out)
  clear BK145
  clear HB
  have BK145 := n0_
  have HB := n1_
  clear n0_ n1_
  refine start_ (n := 11) (S := fun w' => w'.cell? ⟨gb145, 0, none⟩ = some (.int .i64 a1_0) ∧ w'.cell? ⟨gb145, 1, none⟩ = some (.int .i64 a1_1) ∧ w'.cell? ⟨gb145, 2, none⟩ = some (.int .i64 a1_2)) (ds := []) #[false, false, false, false, false, false, false, false, false, false, false] (by kernel_rfl) rfl rfl ⟨(blk_cell BK145.out 0).trans rfl, (blk_cell BK145.out 1).trans rfl, (blk_cell BK145.out 2).trans rfl⟩ (fun hHeld => ?_); refine with_tabW quality_Put.tab1 quality_Put.bits1 (fun HT_ HW_ => ?_)
  generalize w6.drew = w7 at BK145 HB hHeld ⊢
  refine pure_ (i := 0) (N := some 5) (v := ?_) (a' := ?_) #[true, false, false, false, false, false, false, false, false, false, false] rfl rfl (any_of HT_.out (by kernel_rfl)) (fun _ _ _ h => h) (Or.inl ⟨by rfl, ?_⟩) ?_ ?_
  rotate_left
  · intro w'
    go_simp
    with_reducible rfl
  rotate_left
  · simp only [Act.put, List.setIfInBounds_toArray, List.set_cons_zero, List.set_cons_succ, i64_w, i32_w]
    rfl
  refine pure_ (i := 1) (N := some 6) (v := ?_) (a' := ?_) #[true, true, false, false, false, false, false, false, false, false, false] rfl rfl (any_of HT_.out (by kernel_rfl)) (fun _ _ _ h => h) (Or.inl ⟨by rfl, ?_⟩) ?_ ?_
  rotate_left
  · intro w'
    go_simp
    with_reducible rfl
  rotate_left
  · simp only [Act.put, List.setIfInBounds_toArray, List.set_cons_zero, List.set_cons_succ, i64_w, i32_w]
    rfl
  refine pure_ (i := 4) (N := some 9) (v := ?_) (a' := ?_) #[true, true, false, false, true, false, false, false, false, false, false] rfl rfl (any_of HT_.out (by kernel_rfl)) (fun _ _ _ h => h) (Or.inl ⟨by rfl, ?_⟩) ?_ ?_
  rotate_left
  · intro w'
    go_simp
    with_reducible rfl
  rotate_left
  · simp only [Act.put, List.setIfInBounds_toArray, List.set_cons_zero, List.set_cons_succ, i64_w, i32_w]
    rfl
  refine pure_ (i := 7) (N := some 12) (v := ?_) (a' := ?_) #[true, true, false, false, true, false, false, true, false, false, false] rfl rfl (any_of HT_.out (by kernel_rfl)) (fun _ _ _ h => h) (Or.inl ⟨by rfl, ?_⟩) ?_ ?_
  rotate_left
  · intro w'
    go_simp
    with_reducible rfl
  rotate_left
  · simp only [Act.put, List.setIfInBounds_toArray, List.set_cons_zero, List.set_cons_succ, i64_w, i32_w]
    rfl
  refine take_ (i := 2) (N := some 7) (v := ?_) (a' := ?_) #[true, true, true, false, true, false, false, true, false, false, false] rfl rfl (take_ofW HT_.out HW_.out (by kernel_rfl)) (fun _ _ _ h => h) (Or.inl ⟨by rfl, ?_⟩) hHeld ?_ ?_
  rotate_left
  · rintro w' ⟨s0, s1, s2⟩
    go_simp
    with_reducible rfl
  rotate_left
  · simp only [Act.put, List.setIfInBounds_toArray, List.set_cons_zero, List.set_cons_succ, i64_w, i32_w]
    rfl
  refine take_ (i := 5) (N := some 10) (v := ?_) (a' := ?_) #[true, true, true, false, true, true, false, true, false, false, false] rfl rfl (take_ofW HT_.out HW_.out (by kernel_rfl)) (fun _ _ _ h => h) (Or.inl ⟨by rfl, ?_⟩) hHeld ?_ ?_
  rotate_left
  · rintro w' ⟨s0, s1, s2⟩
    go_simp
    with_reducible rfl
  rotate_left
  · simp only [Act.put, List.setIfInBounds_toArray, List.set_cons_zero, List.set_cons_succ, i64_w, i32_w]
    rfl
  refine take_ (i := 8) (N := some 13) (v := ?_) (a' := ?_) #[true, true, true, false, true, true, false, true, true, false, false] rfl rfl (take_ofW HT_.out HW_.out (by kernel_rfl)) (fun _ _ _ h => h) (Or.inl ⟨by rfl, ?_⟩) hHeld ?_ ?_
  rotate_left
  · rintro w' ⟨s0, s1, s2⟩
    go_simp
    with_reducible rfl
  rotate_left
  · simp only [Act.put, List.setIfInBounds_toArray, List.set_cons_zero, List.set_cons_succ, i64_w, i32_w]
    rfl
  refine one_ (i := 3) (N := some 8) #[true, true, true, true, true, true, false, true, true, false, false] rfl rfl (one_of HT_.out (by kernel_rfl)) (by decide) (fun K hK => ?_)
  refine goes_ Try.func23 (by kernel_rfl) rfl #[.slice A0 l0.length c0, .int .i64 a1_0, .int .i64 1] (by rfl) rfl rfl (by (try simp only [List.map_toArray, List.map_cons, List.map_nil]); first | done | rfl | (simp only [List.length_drop, List.length_take]; rfl)) ?_
  with_reducible refine (octets_Put.calls _ _ l0 a1_0 1 t146 _ ?side1 ?side2 A3.out).mono ?_
  (case side1 => repeat (first | exact (Kd.C_below HR0.out HB.out) | (with_reducible refine Kd.C_alloc ?_ _) | (with_reducible refine Kd.C_drewN ?_ _) | (with_reducible refine Kd.C_drew ?_)))
  (case side2 => exact HC0.out)
  rintro e w8 ⟨v147, rfl, ho0, hb⟩
  refine ⟨_, rfl, ?_⟩
  have n0_ := Aside0.mk (Kd.R_lower ho0 (below_size (by repeat (first | (with_reducible first | exact HB.out | apply below_alloc | apply pw_below_drewN | apply below_drew1 | refine below_set ?_ GE145.out) | exact HB.out))))
  have n1_ := Aside0.mk (blk_below (g := gb145) (o := .cells #[.int .i64 a1_0, .int .i64 a1_1, .int .i64 a1_2] 27 (0, 0)) (by (with_reducible repeat (first | refine blk_drewN ?_ _ | refine blk_drew ?_ | refine blk_alloc ?_ _)); exact BK145.out) hb)
  have n2_ := Aside0.mk (below_step (by repeat (first | (with_reducible first | exact HB.out | apply below_alloc | apply pw_below_drewN | apply below_drew1 | refine below_set ?_ GE145.out) | exact HB.out)) hb)
  clear BK145
  clear HB
  have HO148 := n0_
  have BK145 := n1_
  have HB := n2_
  clear n0_ n1_ n2_
  (try clear hb)
  (try clear hb2)
  (try clear hk)
  (try clear hi)
  (try clear ho0)
  obtain ⟨Ao9, co9, eo9⟩ := Kd.R_slice HO148.out
  (first | subst eo9 | (injection eo9 with f1_ f2_ f3_; have f4_ := f1_.symm; have f5_ := f3_.symm; clear f1_ f2_ f3_; subst f4_; subst f5_))
  refine hK.out _ _ ⟨(blk_cell BK145.out 0).trans rfl, (blk_cell BK145.out 1).trans rfl, (blk_cell BK145.out 2).trans rfl⟩ (fun hHeld => ?_)
  clear hK K
  refine norm_ (a' := ?_) ?_ ?_
  rotate_left
  · show Act.put _ (some 8) _ = _
    simp only [Act.put, List.setIfInBounds_toArray, List.set_cons_zero, List.set_cons_succ, i64_w, i32_w]
    rfl
  refine one_ (i := 6) (N := some 11) #[true, true, true, true, true, true, true, true, true, false, false] rfl rfl (one_of HT_.out (by kernel_rfl)) (by decide) (fun K hK => ?_)
  refine goes_ Try.func23 (by kernel_rfl) rfl #[.slice Ao9 t146.length co9, .int .i64 a1_1, .int .i64 1] (by rfl) rfl rfl (by (try simp only [List.map_toArray, List.map_cons, List.map_nil]); first | done | rfl | (simp only [List.length_drop, List.length_take]; rfl)) ?_
  with_reducible refine (octets_Put.calls _ _ t146 a1_1 1 t149 _ ?side1 ?side2 A4.out).mono ?_
  (case side1 => repeat (first | exact (Kd.R_reads' HO148.out).2.2 | (with_reducible refine Kd.C_alloc ?_ _) | (with_reducible refine Kd.C_drewN ?_ _) | (with_reducible refine Kd.C_drew ?_)))
  (case side2 => exact (Kd.R_reads' HO148.out).2.1)
  rintro e w10 ⟨v150, rfl, ho0, hb⟩
  refine ⟨_, rfl, ?_⟩
  have n0_ := Aside0.mk (Kd.R_elder' (by (with_reducible repeat (first | apply Kd.R_alloc | apply Kd.R_drewN | apply Kd.R_drew)); exact HO148.out) (Kd.R_base ho0) hb)
  have n1_ := Aside0.mk (Kd.R_lower (Kd.R_new' ho0 (Kd.R_lt (by (with_reducible repeat (first | apply Kd.R_alloc | apply Kd.R_drewN | apply Kd.R_drew)); exact HO148.out))) (below_size (by repeat (first | (with_reducible first | exact HB.out | apply below_alloc | apply pw_below_drewN | apply below_drew1 | refine below_set ?_ GE145.out) | exact HB.out))))
  have n2_ := Aside0.mk (blk_below (g := gb145) (o := .cells #[.int .i64 a1_0, .int .i64 a1_1, .int .i64 a1_2] 27 (0, 0)) (by (with_reducible repeat (first | refine blk_drewN ?_ _ | refine blk_drew ?_ | refine blk_alloc ?_ _)); exact BK145.out) hb)
  have n3_ := Aside0.mk (below_step (by repeat (first | (with_reducible first | exact HB.out | apply below_alloc | apply pw_below_drewN | apply below_drew1 | refine below_set ?_ GE145.out) | exact HB.out)) hb)
  clear HO148
  clear BK145
  clear HB
  have HO148 := n0_
  have HO151 := n1_
  have BK145 := n2_
  have HB := n3_
  clear n0_ n1_ n2_ n3_
  (try clear hb)
  (try clear hb2)
  (try clear hk)
  (try clear hi)
  (try clear ho0)
  obtain ⟨Ao11, co11, eo11⟩ := Kd.R_slice HO151.out
  (first | subst eo11 | (injection eo11 with f1_ f2_ f3_; have f4_ := f1_.symm; have f5_ := f3_.symm; clear f1_ f2_ f3_; subst f4_; subst f5_))
  refine hK.out _ _ ⟨(blk_cell BK145.out 0).trans rfl, (blk_cell BK145.out 1).trans rfl, (blk_cell BK145.out 2).trans rfl⟩ (fun hHeld => ?_)
  clear hK K
  refine norm_ (a' := ?_) ?_ ?_
  rotate_left
  · show Act.put _ (some 11) _ = _
    simp only [Act.put, List.setIfInBounds_toArray, List.set_cons_zero, List.set_cons_succ, i64_w, i32_w]
    rfl
  refine one_ (i := 9) (N := some 14) #[true, true, true, true, true, true, true, true, true, true, false] rfl rfl (one_of HT_.out (by kernel_rfl)) (by decide) (fun K hK => ?_)
  refine goes_ Try.func23 (by kernel_rfl) rfl #[.slice Ao11 t149.length co11, .int .i64 a1_2, .int .i64 2] (by rfl) rfl rfl (by (try simp only [List.map_toArray, List.map_cons, List.map_nil]); first | done | rfl | (simp only [List.length_drop, List.length_take]; rfl)) ?_
  with_reducible refine (octets_Put.calls _ _ t149 a1_2 2 t152 _ ?side1 ?side2 A5.out).mono ?_
  (case side1 => repeat (first | exact (Kd.R_reads' HO151.out).2.2 | (with_reducible refine Kd.C_alloc ?_ _) | (with_reducible refine Kd.C_drewN ?_ _) | (with_reducible refine Kd.C_drew ?_)))
  (case side2 => exact (Kd.R_reads' HO151.out).2.1)
  rintro e w12 ⟨v153, rfl, ho0, hb⟩
  refine ⟨_, rfl, ?_⟩
  have n0_ := Aside0.mk (Kd.R_elder' (by (with_reducible repeat (first | apply Kd.R_alloc | apply Kd.R_drewN | apply Kd.R_drew)); exact HO148.out) (Kd.R_base ho0) hb)
  have n1_ := Aside0.mk (Kd.R_elder' (by (with_reducible repeat (first | apply Kd.R_alloc | apply Kd.R_drewN | apply Kd.R_drew)); exact HO151.out) (Kd.R_base ho0) hb)
  have n2_ := Aside0.mk (Kd.R_lower (Kd.R_new' (Kd.R_new' ho0 (Kd.R_lt (by (with_reducible repeat (first | apply Kd.R_alloc | apply Kd.R_drewN | apply Kd.R_drew)); exact HO148.out))) (Kd.R_lt (by (with_reducible repeat (first | apply Kd.R_alloc | apply Kd.R_drewN | apply Kd.R_drew)); exact HO151.out))) (below_size (by repeat (first | (with_reducible first | exact HB.out | apply below_alloc | apply pw_below_drewN | apply below_drew1 | refine below_set ?_ GE145.out) | exact HB.out))))
  have n3_ := Aside0.mk (blk_below (g := gb145) (o := .cells #[.int .i64 a1_0, .int .i64 a1_1, .int .i64 a1_2] 27 (0, 0)) (by (with_reducible repeat (first | refine blk_drewN ?_ _ | refine blk_drew ?_ | refine blk_alloc ?_ _)); exact BK145.out) hb)
  have n4_ := Aside0.mk (below_step (by repeat (first | (with_reducible first | exact HB.out | apply below_alloc | apply pw_below_drewN | apply below_drew1 | refine below_set ?_ GE145.out) | exact HB.out)) hb)
  clear HO148
  clear HO151
  clear BK145
  clear HB
  have HO148 := n0_
  have HO151 := n1_
  have HO154 := n2_
  have BK145 := n3_
  have HB := n4_
  clear n0_ n1_ n2_ n3_ n4_
  (try clear hb)
  (try clear hb2)
  (try clear hk)
  (try clear hi)
  (try clear ho0)
  refine hK.out _ _ ⟨(blk_cell BK145.out 0).trans rfl, (blk_cell BK145.out 1).trans rfl, (blk_cell BK145.out 2).trans rfl⟩ (fun hHeld => ?_)
  clear hK K
  refine norm_ (a' := ?_) ?_ ?_
  rotate_left
  · show Act.put _ (some 14) _ = _
    simp only [Act.put, List.setIfInBounds_toArray, List.set_cons_zero, List.set_cons_succ, i64_w, i32_w]
    rfl
  refine pure_ (i := 10) (N := some 4) (v := ?_) (a' := ?_) #[true, true, true, true, true, true, true, true, true, true, true] rfl rfl (any_of HT_.out (by kernel_rfl)) (fun _ _ _ h => h) (Or.inl ⟨by rfl, ?_⟩) ?_ ?_
  rotate_left
  · intro w'
    go_simp
    with_reducible rfl
  rotate_left
  · simp only [Act.put, List.setIfInBounds_toArray, List.set_cons_zero, List.set_cons_succ, i64_w, i32_w]
    rfl
  refine done_ (done_of HT_.out (by kernel_rfl)) ?_
  try go_wp2
  all_goals
    go_ret
    exact ⟨_, by first | rfl | (simp [errW_none, errW_some] <;> rfl) | (simp [*, errW_none, errW_some] <;> rfl), by (with_reducible repeat (first | apply Kd.R_alloc | apply Kd.R_drewN | apply Kd.R_drew)); exact Kd.R_mono HO154.out (fun _ hk => trivial), by repeat (first | (with_reducible first | exact HB.out | apply below_alloc | apply pw_below_drewN | apply below_drew1 | refine below_set ?_ GE145.out) | exact HB.out)⟩
/-! ### body_Put: function 8: by our own printer -/
def body_Put.j3 (k : Nat) (y3_6 : List Int) : Option (List Int × Bool) := some (y3_6, true)
def body_Put.j2 (k : Nat) (x2_3_0 x2_3_1 x2_3_2 x2_3_3 x2_3_4 x2_3_5 x2_3_6 x2_3_7 x2_3_8 x2_3_9 x2_3_10 x2_3_11 x2_3_12 x2_3_13 x2_3_14 x2_3_15 x2_3_16 x2_3_17 x2_3_18 x2_3_19 x2_3_20 x2_3_21 x2_3_22 : Int) (y2_6 : List Int) : Option (List Int × Bool) := if x2_3_0 = 2 then ((ident_Put.f y2_6 0 0).bind fun t2008 => (body_Put.j3 k t2008)) else (if x2_3_0 = 11 then ((octets_Put.f y2_6 x2_3_11 2).bind fun t2012 => ((octets_Put.f t2012 0 1).bind fun t2013 => ((octets_Put.f t2013 x2_3_12 1).bind fun t2014 => ((quality_Put.f t2014 x2_3_13 x2_3_14 x2_3_15).bind fun t2021 => ((octets_Put.f t2021 x2_3_16 1).bind fun t2022 => ((octets_PutId.f t2022 x2_3_17).bind fun t2028 => ((octets_Put.f t2028 x2_3_18 2).bind fun t2029 => ((octets_Put.f t2029 x2_3_19 1).bind fun t2030 => (body_Put.j3 k t2030))))))))) else (if x2_3_0 = 13 then ((octets_Put.f y2_6 x2_3_20 1).bind fun t2015 => ((octets_Put.f t2015 x2_3_21 1).bind fun t2016 => ((octets_Put.f t2016 x2_3_22 1).bind fun t2022 => ((octets_Put.f t2022 0 1).bind fun t2023 => (body_Put.j3 k t2023))))) else (body_Put.j3 k y2_6)))
def body_Put.j1 (k : Nat) (x1_3_0 x1_3_1 x1_3_2 x1_3_3 x1_3_4 x1_3_5 x1_3_6 x1_3_7 x1_3_8 x1_3_9 x1_3_10 x1_3_11 x1_3_12 x1_3_13 x1_3_14 x1_3_15 x1_3_16 x1_3_17 x1_3_18 x1_3_19 x1_3_20 x1_3_21 x1_3_22 : Int) (y1_6 : List Int) : Option (List Int × Bool) := (body_targeted.f x1_3_0).bind fun t1003 => (if t1003 = true then ((ident_Put.f y1_6 x1_3_9 x1_3_10).bind fun t1006 => (body_Put.j2 k x1_3_0 x1_3_1 x1_3_2 x1_3_3 x1_3_4 x1_3_5 x1_3_6 x1_3_7 x1_3_8 x1_3_9 x1_3_10 x1_3_11 x1_3_12 x1_3_13 x1_3_14 x1_3_15 x1_3_16 x1_3_17 x1_3_18 x1_3_19 x1_3_20 x1_3_21 x1_3_22 t1006)) else (body_Put.j2 k x1_3_0 x1_3_1 x1_3_2 x1_3_3 x1_3_4 x1_3_5 x1_3_6 x1_3_7 x1_3_8 x1_3_9 x1_3_10 x1_3_11 x1_3_12 x1_3_13 x1_3_14 x1_3_15 x1_3_16 x1_3_17 x1_3_18 x1_3_19 x1_3_20 x1_3_21 x1_3_22 y1_6))
def body_Put.f (k : Nat) (l0 : List Int) (a1_0 a1_1 a1_2 a1_3 a1_4 a1_5 a1_6 a1_7 a1_8 a1_9 a1_10 a1_11 a1_12 a1_13 a1_14 a1_15 a1_16 a1_17 a1_18 a1_19 a1_20 a1_21 a1_22 : Int) : Option (List Int × Bool) := (body_Check.f k a1_0 a1_1 a1_2 a1_3 a1_4 a1_5 a1_6 a1_7 a1_8 a1_9 a1_10 a1_11 a1_12 a1_13 a1_14 a1_15 a1_16 a1_17 a1_18 a1_19 a1_20 a1_21 a1_22).bind fun t7 => (if t7 = true then ((body_stamped.f a1_0).bind fun t15 => (if t15 = true then ((stamp_Put.f l0 a1_8).bind fun t18 => (body_Put.j1 k a1_0 a1_1 a1_2 a1_3 a1_4 a1_5 a1_6 a1_7 a1_8 a1_9 a1_10 a1_11 a1_12 a1_13 a1_14 a1_15 a1_16 a1_17 a1_18 a1_19 a1_20 a1_21 a1_22 t18)) else (body_Put.j1 k a1_0 a1_1 a1_2 a1_3 a1_4 a1_5 a1_6 a1_7 a1_8 a1_9 a1_10 a1_11 a1_12 a1_13 a1_14 a1_15 a1_16 a1_17 a1_18 a1_19 a1_20 a1_21 a1_22 l0))) else (some (l0, false)))
abbrev body_Put.v0 (x0 x1 x2 x3 x4 x5 x6 x7 x8 x9 x10 x11 x12 x13 x14 x15 x16 x17 x18 x19 x20 x21 x22 : Int) : Value := .agg #[.int .i64 x0, .int .i64 x1, .int .i64 x2, .int .i64 x3, .int .u64 x4, .int .i64 x5, .int .i64 x6, .int .i64 x7, .int .i64 x8, .int .u64 x9, .int .i64 x10, .int .i64 x11, .int .i64 x12, .int .i64 x13, .int .i64 x14, .int .i64 x15, .int .i64 x16, .int .u64 x17, .int .i64 x18, .int .i64 x19, .int .i64 x20, .int .i64 x21, .int .i64 x22]
abbrev body_Put.c1 (x0 x1 x2 x3 x4 x5 x6 x7 x8 x9 x10 x11 x12 x13 x14 x15 x16 x17 x18 x19 x20 x21 x22 : Int) : Array Value := #[.int .i64 x0, .int .i64 x1, .int .i64 x2, .int .i64 x3, .int .u64 x4, .int .i64 x5, .int .i64 x6, .int .i64 x7, .int .i64 x8, .int .u64 x9, .int .i64 x10, .int .i64 x11, .int .i64 x12, .int .i64 x13, .int .i64 x14, .int .i64 x15, .int .i64 x16, .int .u64 x17, .int .i64 x18, .int .i64 x19, .int .i64 x20, .int .i64 x21, .int .i64 x22]
open Go.Proofs.Ytpoocfapmgmfkaa.E in
set_option maxHeartbeats 60000000 in
set_option maxRecDepth 100000 in
theorem body_Put.calls (k : Nat) (A0 : Option Addr) (cp0 : Nat) (l0 : List Int) (a1_0 a1_1 a1_2 a1_3 a1_4 a1_5 a1_6 a1_7 a1_8 a1_9 a1_10 a1_11 a1_12 a1_13 a1_14 a1_15 a1_16 a1_17 a1_18 a1_19 a1_20 a1_21 a1_22 : Int) (r1 : List Int) (r2 : Bool) (w : World) (HR0 : Kd.C (Kd.int .u8) w A0 l0.length l0) (HC0 : l0.length ≤ cp0) (h : body_Put.f k l0 a1_0 a1_1 a1_2 a1_3 a1_4 a1_5 a1_6 a1_7 a1_8 a1_9 a1_10 a1_11 a1_12 a1_13 a1_14 a1_15 a1_16 a1_17 a1_18 a1_19 a1_20 a1_21 a1_22 = some (r1, r2)) :
    Calls Try.prog 8 #[.slice A0 l0.length cp0, .agg #[.int .i64 a1_0, .int .i64 a1_1, .int .i64 a1_2, .int .i64 a1_3, .int .u64 a1_4, .int .i64 a1_5, .int .i64 a1_6, .int .i64 a1_7, .int .i64 a1_8, .int .u64 a1_9, .int .i64 a1_10, .int .i64 a1_11, .int .i64 a1_12, .int .i64 a1_13, .int .i64 a1_14, .int .i64 a1_15, .int .i64 a1_16, .int .u64 a1_17, .int .i64 a1_18, .int .i64 a1_19, .int .i64 a1_20, .int .i64 a1_21, .int .i64 a1_22]] w fun e w' => ∃ v0_ : Value, e = .returned (.tuple #[v0_, .bool r2]) ∧ IsC (Kd.int .u8) r1 v0_ w' ∧ Below w.heap.size w w' := by
  have H := h
  clear h
  unfold body_Put.f at H
  obtain ⟨t7, At7, H⟩ := Option.bind_eq_some_iff.mp H
  by_cases c1 : t7 = true
  rotate_left
  · rw [if_neg c1] at H
    simp only [Option.some.injEq, Prod.mk.injEq] at H
    obtain ⟨rfl, rfl⟩ := H
    refine calls_of_wp (fn := Try.f8) (by kernel_rfl) rfl ?_
    have hS := St.enter #[.slice A0 l0.length cp0, (body_Put.v0 a1_0 a1_1 a1_2 a1_3 a1_4 a1_5 a1_6 a1_7 a1_8 a1_9 a1_10 a1_11 a1_12 a1_13 a1_14 a1_15 a1_16 a1_17 a1_18 a1_19 a1_20 a1_21 a1_22)] 80 (by simp) [(0, .slice A0 l0.length cp0), (1, (body_Put.v0 a1_0 a1_1 a1_2 a1_3 a1_4 a1_5 a1_6 a1_7 a1_8 a1_9 a1_10 a1_11 a1_12 a1_13 a1_14 a1_15 a1_16 a1_17 a1_18 a1_19 a1_20 a1_21 a1_22))] (by simp)
    have HB0 := Below.refl w.heap.size w
    refine wp_seq_k (fun K1 hK1 => ?_)
    refine reg_seq (N := 80) (bs := [(0, .slice A0 l0.length cp0), (1, (body_Put.v0 a1_0 a1_1 a1_2 a1_3 a1_4 a1_5 a1_6 a1_7 a1_8 a1_9 a1_10 a1_11 a1_12 a1_13 a1_14 a1_15 a1_16 a1_17 a1_18 a1_19 a1_20 a1_21 a1_22))]) (I := fun x => Below w.heap.size w x) (ps := [IsB (body_Put.c1 a1_0 a1_1 a1_2 a1_3 a1_4 a1_5 a1_6 a1_7 a1_8 a1_9 a1_10 a1_11 a1_12 a1_13 a1_14 a1_15 a1_16 a1_17 a1_18 a1_19 a1_20 a1_21 a1_22) 29 w.heap.size, IsV (.slice none 0 0), VB false]) (by kernel_rfl) ?_ ?_ rfl hS HB0 ?_ ?_
    · exact fun x y hI hb => below_step hI hb
    · exact .cons (Stays.b _ _ _) (.v (.v (.nil)))
    · refine .on rfl (fun a w hS hI hp => does_var (x_box rfl (congrArg Value.cells (hS.get 1 rfl))) (hI).size) ?_
      iterate 2 refine .on rfl (fun a w hS hI hp => does_val (x_assign rfl (rfl)) rfl) ?_
      exact .nil
    clear hS
    intro at2 w3 hS hI hp
    have hBw3_w := hI
    replace hS := (hS.nil).cons (hS.get 0 rfl)
    obtain ⟨g4, hv3, hgeg4, hbxg4⟩ := (show IsB _ 29 _ (sl _ 3) _ from hp 0 (by decide))
    have hBw3_w3 := Below.refl w3.heap.size w3
    have hS := hS.cons hv3
    clear hp hI hv3
    refine hK1 _ _ ?_
    (try clear hK1 K1)
    refine wp_seq_k (fun K5 hK5 => ?_)
    refine wp_seq_k (fun K6 hK6 => ?_)
    refine reg_seq (N := 80) (bs := [(3, .pointer (some ⟨g4, 0, none⟩)), (0, .slice A0 l0.length cp0)]) (I := fun x => Below w.heap.size w x ∧ Below w3.heap.size w3 x) (ps := [IsV ((body_Put.v0 a1_0 a1_1 a1_2 a1_3 a1_4 a1_5 a1_6 a1_7 a1_8 a1_9 a1_10 a1_11 a1_12 a1_13 a1_14 a1_15 a1_16 a1_17 a1_18 a1_19 a1_20 a1_21 a1_22)), VB t7, VB (!t7)]) (by kernel_rfl) ?_ ?_ rfl hS ⟨hBw3_w, hBw3_w3⟩ ?_ ?_
    · exact fun x y hI hb => ⟨below_step hI.1 hb, below_step hI.2 hb⟩
    · exact .v (.v (.v (.nil)))
    · refine .on rfl (fun a w hS hI hp => does_loadrow rfl (hS.get 0 rfl) (((hI.2).block g4 (blk_lt hbxg4)).trans hbxg4) Try.underlying29 rfl (by kernel_rfl) rfl) ?_
      refine .on rfl (fun a w hS hI hp => does_call (by kernel_rfl) (ar1 (hp.V 0 rfl rfl)) ((body_Check.calls k a1_0 a1_1 a1_2 a1_3 a1_4 a1_5 a1_6 a1_7 a1_8 a1_9 a1_10 a1_11 a1_12 a1_13 a1_14 a1_15 a1_16 a1_17 a1_18 a1_19 a1_20 a1_21 a1_22 t7 _  At7).mono fun _ _ h => ⟨_, h.1, h.2, rfl⟩)) ?_
      refine .on rfl (fun a w hS hI hp => does_val (x_not rfl (hp.V 1 rfl rfl)) rfl) ?_
      exact .nil
    clear hS
    intro at8 w9 hS hI hp
    have hBw9_w := hI.1
    have hBw9_w3 := hI.2
    have hv9 : sl _ 9 = .bool (!t7) := hp 2 (by decide)
    have hBw9_w9 := Below.refl w9.heap.size w9
    have hS := hS.cons hv9
    clear hp hI hv9
    refine hK6 _ _ ?_
    (try clear hK6 K6)
    refine wp_cond_true ((hS.get 0 rfl).trans (bT (congrArg (!·) (Bool.eq_false_iff.2 c1)))) ?_
    refine wp_seq_k (fun K10 hK10 => ?_)
    refine reg_seq (N := 80) (bs := [(9, .bool (!t7)), (3, .pointer (some ⟨g4, 0, none⟩)), (0, .slice A0 l0.length cp0)]) (I := fun x => Below w.heap.size w x ∧ Below w3.heap.size w3 x ∧ Below w9.heap.size w9 x) (ps := [IsV (.slice A0 l0.length cp0), IsV (.slice A0 l0.length cp0), VB false]) (by kernel_rfl) ?_ ?_ rfl hS ⟨hBw9_w, hBw9_w3, hBw9_w9⟩ ?_ ?_
    · exact fun x y hI hb => ⟨below_step hI.1 hb, below_step hI.2.1 hb, below_step hI.2.2 hb⟩
    · exact .v (.v (.v (.nil)))
    · refine .ms 2 rfl rfl rfl ?_
      refine .asg 0 rfl rfl rfl rfl ?_
      refine .on rfl (fun a w hS hI hp => does_val (x_assign rfl (rfl)) rfl) ?_
      exact .nil
    clear hS
    intro at11 w12 hS hI hp
    have hBw12_w := hI.1
    have hBw12_w3 := hI.2.1
    have hBw12_w9 := hI.2.2
    replace hS := hS.nil
    have hv4 : sl _ 4 = .slice A0 l0.length cp0 := hp 1 (by decide)
    have hv5 : sl _ 5 = .bool false := hp 2 (by decide)
    have hBw12_w12 := Below.refl w12.heap.size w12
    have hS := hS.cons hv4
    have hS := hS.cons hv5
    clear hp hI hv4 hv5
    refine hK10 _ _ ?_
    (try clear hK10 K10)
    refine wp_ret ?_
    (try simp only [Exit.then, Exit.inBlock, Exit.jump, Exit.noGoto])
    exact bodyPost_ret (v := .tuple #[.slice A0 l0.length cp0, .bool false]) (results_list (rs := [.tmp 4, .tmp 5]) rfl (by simp) (Vals.at (hS.get 1 rfl) (Vals.at (hS.get 0 rfl) .nil))) hS.nodef ⟨.slice A0 l0.length cp0, rfl, ⟨_, _, rfl, HC0, Kd.C_below HR0 hBw12_w⟩, hBw12_w⟩
  rw [if_pos c1] at H
  refine calls_of_wp (fn := Try.f8) (by kernel_rfl) rfl ?_
  have hS := St.enter #[.slice A0 l0.length cp0, (body_Put.v0 a1_0 a1_1 a1_2 a1_3 a1_4 a1_5 a1_6 a1_7 a1_8 a1_9 a1_10 a1_11 a1_12 a1_13 a1_14 a1_15 a1_16 a1_17 a1_18 a1_19 a1_20 a1_21 a1_22)] 80 (by simp) [(0, .slice A0 l0.length cp0), (1, (body_Put.v0 a1_0 a1_1 a1_2 a1_3 a1_4 a1_5 a1_6 a1_7 a1_8 a1_9 a1_10 a1_11 a1_12 a1_13 a1_14 a1_15 a1_16 a1_17 a1_18 a1_19 a1_20 a1_21 a1_22))] (by simp)
  have HB0 := Below.refl w.heap.size w
  refine wp_seq_k (fun K1 hK1 => ?_)
  refine reg_seq (N := 80) (bs := [(0, .slice A0 l0.length cp0), (1, (body_Put.v0 a1_0 a1_1 a1_2 a1_3 a1_4 a1_5 a1_6 a1_7 a1_8 a1_9 a1_10 a1_11 a1_12 a1_13 a1_14 a1_15 a1_16 a1_17 a1_18 a1_19 a1_20 a1_21 a1_22))]) (I := fun x => Below w.heap.size w x) (ps := [IsB (body_Put.c1 a1_0 a1_1 a1_2 a1_3 a1_4 a1_5 a1_6 a1_7 a1_8 a1_9 a1_10 a1_11 a1_12 a1_13 a1_14 a1_15 a1_16 a1_17 a1_18 a1_19 a1_20 a1_21 a1_22) 29 w.heap.size, IsV (.slice none 0 0), VB false]) (by kernel_rfl) ?_ ?_ rfl hS HB0 ?_ ?_
  · exact fun x y hI hb => below_step hI hb
  · exact .cons (Stays.b _ _ _) (.v (.v (.nil)))
  · refine .on rfl (fun a w hS hI hp => does_var (x_box rfl (congrArg Value.cells (hS.get 1 rfl))) (hI).size) ?_
    iterate 2 refine .on rfl (fun a w hS hI hp => does_val (x_assign rfl (rfl)) rfl) ?_
    exact .nil
  clear hS
  intro at2 w3 hS hI hp
  have hBw3_w := hI
  replace hS := (hS.nil).cons (hS.get 0 rfl)
  obtain ⟨g4, hv3, hgeg4, hbxg4⟩ := (show IsB _ 29 _ (sl _ 3) _ from hp 0 (by decide))
  have hBw3_w3 := Below.refl w3.heap.size w3
  have hS := hS.cons hv3
  clear hp hI hv3
  refine hK1 _ _ ?_
  (try clear hK1 K1)
  refine wp_seq_k (fun K5 hK5 => ?_)
  refine wp_seq_k (fun K6 hK6 => ?_)
  refine reg_seq (N := 80) (bs := [(3, .pointer (some ⟨g4, 0, none⟩)), (0, .slice A0 l0.length cp0)]) (I := fun x => Below w.heap.size w x ∧ Below w3.heap.size w3 x) (ps := [IsV ((body_Put.v0 a1_0 a1_1 a1_2 a1_3 a1_4 a1_5 a1_6 a1_7 a1_8 a1_9 a1_10 a1_11 a1_12 a1_13 a1_14 a1_15 a1_16 a1_17 a1_18 a1_19 a1_20 a1_21 a1_22)), VB t7, VB (!t7)]) (by kernel_rfl) ?_ ?_ rfl hS ⟨hBw3_w, hBw3_w3⟩ ?_ ?_
  · exact fun x y hI hb => ⟨below_step hI.1 hb, below_step hI.2 hb⟩
  · exact .v (.v (.v (.nil)))
  · refine .on rfl (fun a w hS hI hp => does_loadrow rfl (hS.get 0 rfl) (((hI.2).block g4 (blk_lt hbxg4)).trans hbxg4) Try.underlying29 rfl (by kernel_rfl) rfl) ?_
    refine .on rfl (fun a w hS hI hp => does_call (by kernel_rfl) (ar1 (hp.V 0 rfl rfl)) ((body_Check.calls k a1_0 a1_1 a1_2 a1_3 a1_4 a1_5 a1_6 a1_7 a1_8 a1_9 a1_10 a1_11 a1_12 a1_13 a1_14 a1_15 a1_16 a1_17 a1_18 a1_19 a1_20 a1_21 a1_22 t7 _  At7).mono fun _ _ h => ⟨_, h.1, h.2, rfl⟩)) ?_
    refine .on rfl (fun a w hS hI hp => does_val (x_not rfl (hp.V 1 rfl rfl)) rfl) ?_
    exact .nil
  clear hS
  intro at8 w9 hS hI hp
  have hBw9_w := hI.1
  have hBw9_w3 := hI.2
  have hv9 : sl _ 9 = .bool (!t7) := hp 2 (by decide)
  have hBw9_w9 := Below.refl w9.heap.size w9
  have hS := hS.cons hv9
  clear hp hI hv9
  refine hK6 _ _ ?_
  (try clear hK6 K6)
  refine wp_cond_false ((hS.get 0 rfl).trans (bF (congrArg (!·) c1))) ?_
  refine wp_skip ?_
  refine hK5 _ _ ?_
  (try clear hK5 K5)
  refine wp_seq_k (fun K10 hK10 => ?_)
  refine reg_seq (N := 80) (bs := [(9, .bool (!t7)), (3, .pointer (some ⟨g4, 0, none⟩)), (0, .slice A0 l0.length cp0)]) (I := fun x => Below w.heap.size w x ∧ Below w3.heap.size w3 x ∧ Below w9.heap.size w9 x) (ps := [IsV (.slice A0 l0.length cp0), IsV (.slice A0 l0.length cp0), VI (l0.length : Int), IsV (.slice A0 l0.length cp0), VI (l0.length : Int), IsV (.slice A0 l0.length l0.length), IsV (.slice A0 l0.length l0.length)]) (by kernel_rfl) ?_ ?_ rfl hS ⟨hBw9_w, hBw9_w3, hBw9_w9⟩ ?_ ?_
  · exact fun x y hI hb => ⟨below_step hI.1 hb, below_step hI.2.1 hb, below_step hI.2.2 hb⟩
  · exact .v (.v (.v (.v (.v (.v (.v (.nil)))))))
  · refine .ms 2 rfl rfl rfl ?_
    refine .ms 2 rfl rfl rfl ?_
    refine .on rfl (fun a w hS hI hp => does_val (x_len (e := 5) rfl (by kernel_rfl) (hp.V 1 rfl rfl)) rfl) ?_
    refine .ms 2 rfl rfl rfl ?_
    refine .on rfl (fun a w hS hI hp => does_val (x_len (e := 5) rfl (by kernel_rfl) (hp.V 3 rfl rfl)) rfl) ?_
    refine .on rfl (fun a w hS hI hp => does_val (x_cutcap (e := 5) (n := l0.length) (c := cp0) (j := (l0.length : Int)) (k := (l0.length : Int)) rfl (by kernel_rfl) (by kernel_rfl) (hp.V 0 rfl rfl) (hp.V 2 rfl rfl) (hp.V 4 rfl rfl) (Int.natCast_nonneg _) (Int.le_refl _) (Int.ofNat_le.2 HC0)) rfl) ?_
    refine .asg 5 rfl rfl rfl rfl ?_
    exact .nil
  clear hS
  intro at11 w12 hS hI hp
  have hBw12_w := hI.1
  have hBw12_w3 := hI.2.1
  have hBw12_w9 := hI.2.2
  replace hS := (hS.nil).cons (hS.get 1 rfl)
  have hv6 : sl _ 6 = .slice A0 l0.length l0.length := hp 6 (by decide)
  have hBw12_w12 := Below.refl w12.heap.size w12
  have hS := hS.cons hv6
  clear hp hI hv6
  refine hK10 _ _ ?_
  (try clear hK10 K10)
  refine wp_seq_k (fun K13 hK13 => ?_)
  have J1 : ∀ (aL1 : Act) (wL1 : World) (x1_3_0 x1_3_1 x1_3_2 x1_3_3 x1_3_4 x1_3_5 x1_3_6 x1_3_7 x1_3_8 x1_3_9 x1_3_10 x1_3_11 x1_3_12 x1_3_13 x1_3_14 x1_3_15 x1_3_16 x1_3_17 x1_3_18 x1_3_19 x1_3_20 x1_3_21 x1_3_22 : Int) (gL1_3 : Nat) (y1_6 : List Int) (AL1_6 : Option Addr) (CL1_6 : Nat), body_Put.j1 k x1_3_0 x1_3_1 x1_3_2 x1_3_3 x1_3_4 x1_3_5 x1_3_6 x1_3_7 x1_3_8 x1_3_9 x1_3_10 x1_3_11 x1_3_12 x1_3_13 x1_3_14 x1_3_15 x1_3_16 x1_3_17 x1_3_18 x1_3_19 x1_3_20 x1_3_21 x1_3_22 y1_6 = some (r1, r2) → St 80 [(3, .pointer (some ⟨gL1_3, 0, none⟩)), (6, .slice AL1_6 y1_6.length CL1_6)] aL1 → Below w.heap.size w wL1 → w.heap.size ≤ gL1_3 → wL1.heap[gL1_3]? = some (.cells (body_Put.c1 x1_3_0 x1_3_1 x1_3_2 x1_3_3 x1_3_4 x1_3_5 x1_3_6 x1_3_7 x1_3_8 x1_3_9 x1_3_10 x1_3_11 x1_3_12 x1_3_13 x1_3_14 x1_3_15 x1_3_16 x1_3_17 x1_3_18 x1_3_19 x1_3_20 x1_3_21 x1_3_22) 29 (0, 0)) → y1_6.length ≤ CL1_6 → Kd.C (Kd.int .u8) wL1 AL1_6 y1_6.length y1_6 → K13 aL1 wL1 := by
    intro aL1 wL1 x1_3_0 x1_3_1 x1_3_2 x1_3_3 x1_3_4 x1_3_5 x1_3_6 x1_3_7 x1_3_8 x1_3_9 x1_3_10 x1_3_11 x1_3_12 x1_3_13 x1_3_14 x1_3_15 x1_3_16 x1_3_17 x1_3_18 x1_3_19 x1_3_20 x1_3_21 x1_3_22 gL1_3 y1_6 AL1_6 CL1_6 H hS hBwL1_w hgeLgL1_3 hbxLgL1_3 hr1_6 hcL1_6
    unfold body_Put.j1 at H
    (try dsimp only at H)
    have hBwL1_wL1 := Below.refl wL1.heap.size wL1
    refine hK13 _ _ ?_
    (try clear hK13 K13)
    refine wp_seq_k (fun K1001 hK1001 => ?_)
    have J2 : ∀ (aL2 : Act) (wL2 : World) (x2_3_0 x2_3_1 x2_3_2 x2_3_3 x2_3_4 x2_3_5 x2_3_6 x2_3_7 x2_3_8 x2_3_9 x2_3_10 x2_3_11 x2_3_12 x2_3_13 x2_3_14 x2_3_15 x2_3_16 x2_3_17 x2_3_18 x2_3_19 x2_3_20 x2_3_21 x2_3_22 : Int) (gL2_3 : Nat) (y2_6 : List Int) (AL2_6 : Option Addr) (CL2_6 : Nat), body_Put.j2 k x2_3_0 x2_3_1 x2_3_2 x2_3_3 x2_3_4 x2_3_5 x2_3_6 x2_3_7 x2_3_8 x2_3_9 x2_3_10 x2_3_11 x2_3_12 x2_3_13 x2_3_14 x2_3_15 x2_3_16 x2_3_17 x2_3_18 x2_3_19 x2_3_20 x2_3_21 x2_3_22 y2_6 = some (r1, r2) → St 80 [(3, .pointer (some ⟨gL2_3, 0, none⟩)), (6, .slice AL2_6 y2_6.length CL2_6)] aL2 → Below w.heap.size w wL2 → w.heap.size ≤ gL2_3 → wL2.heap[gL2_3]? = some (.cells (body_Put.c1 x2_3_0 x2_3_1 x2_3_2 x2_3_3 x2_3_4 x2_3_5 x2_3_6 x2_3_7 x2_3_8 x2_3_9 x2_3_10 x2_3_11 x2_3_12 x2_3_13 x2_3_14 x2_3_15 x2_3_16 x2_3_17 x2_3_18 x2_3_19 x2_3_20 x2_3_21 x2_3_22) 29 (0, 0)) → y2_6.length ≤ CL2_6 → Kd.C (Kd.int .u8) wL2 AL2_6 y2_6.length y2_6 → K1001 aL2 wL2 := by
      intro aL2 wL2 x2_3_0 x2_3_1 x2_3_2 x2_3_3 x2_3_4 x2_3_5 x2_3_6 x2_3_7 x2_3_8 x2_3_9 x2_3_10 x2_3_11 x2_3_12 x2_3_13 x2_3_14 x2_3_15 x2_3_16 x2_3_17 x2_3_18 x2_3_19 x2_3_20 x2_3_21 x2_3_22 gL2_3 y2_6 AL2_6 CL2_6 H hS hBwL2_w hgeLgL2_3 hbxLgL2_3 hr2_6 hcL2_6
      unfold body_Put.j2 at H
      (try dsimp only at H)
      have hBwL2_wL2 := Below.refl wL2.heap.size wL2
      refine hK1001 _ _ ?_
      (try clear hK1001 K1001)
      refine wp_seq_k (fun K2001 hK2001 => ?_)
      have J3 : ∀ (aL3 : Act) (wL3 : World) (y3_6 : List Int) (AL3_6 : Option Addr) (CL3_6 : Nat), body_Put.j3 k y3_6 = some (r1, r2) → St 80 [(6, .slice AL3_6 y3_6.length CL3_6)] aL3 → Below w.heap.size w wL3 → y3_6.length ≤ CL3_6 → Kd.C (Kd.int .u8) wL3 AL3_6 y3_6.length y3_6 → K2001 aL3 wL3 := by
        intro aL3 wL3 y3_6 AL3_6 CL3_6 H hS hBwL3_w hr3_6 hcL3_6
        unfold body_Put.j3 at H
        (try dsimp only at H)
        simp only [Option.some.injEq, Prod.mk.injEq] at H
        obtain ⟨rfl, rfl⟩ := H
        have hBwL3_wL3 := Below.refl wL3.heap.size wL3
        refine hK2001 _ _ ?_
        (try clear hK2001 K2001)
        refine wp_seq_k (fun K3001 hK3001 => ?_)
        refine reg_seq (N := 80) (bs := [(6, .slice AL3_6 y3_6.length CL3_6)]) (I := fun x => Below w.heap.size w x ∧ Below wL3.heap.size wL3 x) (ps := [IsV (.slice AL3_6 y3_6.length CL3_6), IsV (.slice AL3_6 y3_6.length CL3_6), VB true]) (by kernel_rfl) ?_ ?_ rfl hS ⟨hBwL3_w, hBwL3_wL3⟩ ?_ ?_
        · exact fun x y hI hb => ⟨below_step hI.1 hb, below_step hI.2 hb⟩
        · exact .v (.v (.v (.nil)))
        · refine .ms 0 rfl rfl rfl ?_
          refine .asg 0 rfl rfl rfl rfl ?_
          refine .on rfl (fun a w hS hI hp => does_val (x_assign rfl (rfl)) rfl) ?_
          exact .nil
        clear hS
        intro at3002 w3003 hS hI hp
        have hBw3003_w := hI.1
        have hBw3003_wL3 := hI.2
        replace hS := hS.nil
        have hv4 : sl _ 4 = .slice AL3_6 y3_6.length CL3_6 := hp 1 (by decide)
        have hv5 : sl _ 5 = .bool true := hp 2 (by decide)
        have hBw3003_w3003 := Below.refl w3003.heap.size w3003
        have hS := hS.cons hv4
        have hS := hS.cons hv5
        clear hp hI hv4 hv5
        refine hK3001 _ _ ?_
        (try clear hK3001 K3001)
        refine wp_ret ?_
        (try simp only [Exit.then, Exit.inBlock, Exit.jump, Exit.noGoto])
        exact bodyPost_ret (v := .tuple #[.slice AL3_6 y3_6.length CL3_6, .bool true]) (results_list (rs := [.tmp 4, .tmp 5]) rfl (by simp) (Vals.at (hS.get 1 rfl) (Vals.at (hS.get 0 rfl) .nil))) hS.nodef ⟨.slice AL3_6 y3_6.length CL3_6, rfl, ⟨_, _, rfl, hr3_6, Kd.C_below hcL3_6 hBw3003_wL3⟩, hBw3003_w⟩
      by_cases c2 : x2_3_0 = 2
      · rw [if_pos c2] at H
        obtain ⟨t2008, At2008, H⟩ := Option.bind_eq_some_iff.mp H
        refine wp_seq_k (fun K2002 hK2002 => ?_)
        refine reg_seq (N := 80) (bs := [(3, .pointer (some ⟨gL2_3, 0, none⟩)), (6, .slice AL2_6 y2_6.length CL2_6)]) (I := fun x => Below w.heap.size w x ∧ Below wL2.heap.size wL2 x) (ps := [VP gL2_3 0, VI x2_3_0]) (by kernel_rfl) ?_ ?_ rfl hS ⟨hBwL2_w, hBwL2_wL2⟩ ?_ ?_
        · exact fun x y hI hb => ⟨below_step hI.1 hb, below_step hI.2 hb⟩
        · exact .v (.v (.nil))
        · refine .on rfl (fun a w hS hI hp => does_val (x_fieldE (b := 0) rfl (hS.get 0 rfl) Try.underlying29 rfl rfl (by kernel_rfl)) rfl) ?_
          refine .on rfl (fun a w hS hI hp => does_val (x_load1 (d := .int .i64) rfl (hp.V 0 rfl rfl) (by kernel_rfl) rfl ((blk_cell (((hI.2).block gL2_3 (blk_lt hbxLgL2_3)).trans hbxLgL2_3) 0).trans rfl)) rfl) ?_
          exact .nil
        clear hS
        intro at2003 w2004 hS hI hp
        have hBw2004_w := hI.1
        have hBw2004_wL2 := hI.2
        have hv32 : sl _ 32 = .int .i64 x2_3_0 := hp 1 (by decide)
        have hBw2004_w2004 := Below.refl w2004.heap.size w2004
        have hS := hS.cons hv32
        clear hp hI hv32
        refine hK2002 _ _ ?_
        (try clear hK2002 K2002)
        refine wp_block ?_
        refine wp_seq_k (fun K2005 hK2005 => ?_)
        refine reg_seq (N := 80) (bs := [(32, .int .i64 x2_3_0), (3, .pointer (some ⟨gL2_3, 0, none⟩)), (6, .slice AL2_6 y2_6.length CL2_6)]) (I := fun x => Below w.heap.size w x ∧ Below wL2.heap.size wL2 x ∧ Below w2004.heap.size w2004 x) (ps := [VB (decide (x2_3_0 = 2)), VB (decide (x2_3_0 = 2))]) (by kernel_rfl) ?_ ?_ rfl hS ⟨hBw2004_w, hBw2004_wL2, hBw2004_w2004⟩ ?_ ?_
        · exact fun x y hI hb => ⟨below_step hI.1 hb, below_step hI.2.1 hb, below_step hI.2.2 hb⟩
        · exact .v (.v (.nil))
        · refine .on rfl (fun a w hS hI hp => does_val (x_bin rfl (hS.get 0 rfl) (rfl) (b_eql _ _ _ _ _ _)) rfl) ?_
          refine .asg 0 rfl rfl rfl rfl ?_
          exact .nil
        clear hS
        intro at2006 w2007 hS hI hp
        have hBw2007_w := hI.1
        have hBw2007_wL2 := hI.2.1
        have hBw2007_w2004 := hI.2.2
        have hv33 : sl _ 33 = .bool (decide (x2_3_0 = 2)) := hp 1 (by decide)
        have hBw2007_w2007 := Below.refl w2007.heap.size w2007
        have hS := hS.cons hv33
        clear hp hI hv33
        refine hK2005 _ _ ?_
        (try clear hK2005 K2005)
        refine wp_cond_true ((hS.get 0 rfl).trans (bT (decide_eq_true c2))) ?_
        refine reg_seq_tail 3 (N := 80) (bs := [(33, .bool (decide (x2_3_0 = 2))), (32, .int .i64 x2_3_0), (3, .pointer (some ⟨gL2_3, 0, none⟩)), (6, .slice AL2_6 y2_6.length CL2_6)]) (I := fun x => Below w.heap.size w x ∧ Below wL2.heap.size wL2 x ∧ Below w2007.heap.size w2007 x) (ps := [IsV (.slice AL2_6 y2_6.length CL2_6), IsV (.agg #[.int .u64 0, .int .i64 0]), IsR (Kd.int .u8) 5 w2007.heap.size t2008]) (by kernel_rfl) ?_ ?_ rfl hS ⟨hBw2007_w, hBw2007_wL2, hBw2007_w2007⟩ ?_ ?_
        · exact fun x y hI hb => ⟨below_step hI.1 hb, below_step hI.2.1 hb, below_step hI.2.2 hb⟩
        · exact .v (.v (.cons (Stays.r _ _ _ _) (.nil)))
        · refine .ms 3 rfl rfl rfl ?_
          refine .on rfl (fun a w hS hI hp => does_val (x_build (vs := []) rfl (by rw [Array.toList_map]; exact (show [] = _ from rfl)) (by kernel_rfl)) rfl) ?_
          refine .on rfl (fun a w hS hI hp => does_call (by kernel_rfl) (ar2 (hp.V 0 rfl rfl) (hp.V 1 rfl rfl)) ((ident_Put.calls _ _ y2_6 0 0 t2008 _ (Kd.C_below hcL2_6 hI.2.1) hr2_6 At2008).mono fun _ _ h => h.elim fun v0 h => ⟨v0, h.1, h.2.2, Kd.R_lower h.2.1 hI.2.2.size⟩)) ?_
          exact .nil
        clear hS
        intro at2009 w2010 hS hI hp
        have hBw2010_w := hI.1
        have hBw2010_wL2 := hI.2.1
        have hBw2010_w2007 := hI.2.2
        replace hS := (hS.nil).cons (hS.get 3 rfl)
        obtain ⟨A2011, C2011, hv37, hl2011, hc2011⟩ := Kd.R_reads (show Kd.R (Kd.int .u8) 5 w2010 w2007.heap.size (fun _ => True) (sl _ 37) t2008 from hp 2 (by decide))
        have ho2011 : Kd.R (Kd.int .u8) 5 w2010 w2007.heap.size (fun _ => True) (.slice A2011 t2008.length C2011) t2008 := hv37 ▸ (hp 2 (by decide))
        have hBw2010_w2010 := Below.refl w2010.heap.size w2010
        have hS := hS.cons hv37
        clear hp hI hv37
        show wpList _ _ _ [_] _ _
        refine list_step rfl (R := fun v w' => Below _ _ w' ∧ (IsV (.slice A2011 t2008.length C2011)) v w') (does_val (x_assign rfl (hS.get 0 rfl)) rfl) ?_
        rintro vw2012 w2012 ⟨hb, he⟩
        have hBw2012_w := below_step hBw2010_w hb
        have hBw2012_wL2 := below_step hBw2010_wL2 hb
        have hBw2012_w2007 := below_step hBw2010_w2007 hb
        have hBw2012_w2010 := below_step hBw2010_w2010 hb
        have hBw2012_w2012 := Below.refl w2012.heap.size w2012
        obtain rfl : vw2012 = .slice A2011 t2008.length C2011 := he
        replace hS := (hS.nil).cons (hS.get 0 rfl)
        refine hS.next (v := .slice A2011 t2008.length C2011) (d := 6) rfl (by decide) (by rfl) ?_
        clear hS
        intro at2013 hS
        refine wpList_nil ?_
        replace hS := (hS.nil).cons (hS.get 0 rfl)
        (try simp only [Exit.then, Exit.inBlock])
        exact J3 _ _ t2008 A2011 C2011 H hS hBw2012_w hl2011 (Kd.C_below hc2011 hBw2012_w2010)
      rw [if_neg c2] at H
      by_cases c3 : x2_3_0 = 11
      · rw [if_pos c3] at H
        obtain ⟨t2012, At2012, H⟩ := Option.bind_eq_some_iff.mp H
        obtain ⟨t2013, At2013, H⟩ := Option.bind_eq_some_iff.mp H
        obtain ⟨t2014, At2014, H⟩ := Option.bind_eq_some_iff.mp H
        obtain ⟨t2021, At2021, H⟩ := Option.bind_eq_some_iff.mp H
        obtain ⟨t2022, At2022, H⟩ := Option.bind_eq_some_iff.mp H
        obtain ⟨t2028, At2028, H⟩ := Option.bind_eq_some_iff.mp H
        obtain ⟨t2029, At2029, H⟩ := Option.bind_eq_some_iff.mp H
        obtain ⟨t2030, At2030, H⟩ := Option.bind_eq_some_iff.mp H
        refine wp_seq_k (fun K2002 hK2002 => ?_)
        refine reg_seq (N := 80) (bs := [(3, .pointer (some ⟨gL2_3, 0, none⟩)), (6, .slice AL2_6 y2_6.length CL2_6)]) (I := fun x => Below w.heap.size w x ∧ Below wL2.heap.size wL2 x) (ps := [VP gL2_3 0, VI x2_3_0]) (by kernel_rfl) ?_ ?_ rfl hS ⟨hBwL2_w, hBwL2_wL2⟩ ?_ ?_
        · exact fun x y hI hb => ⟨below_step hI.1 hb, below_step hI.2 hb⟩
        · exact .v (.v (.nil))
        · refine .on rfl (fun a w hS hI hp => does_val (x_fieldE (b := 0) rfl (hS.get 0 rfl) Try.underlying29 rfl rfl (by kernel_rfl)) rfl) ?_
          refine .on rfl (fun a w hS hI hp => does_val (x_load1 (d := .int .i64) rfl (hp.V 0 rfl rfl) (by kernel_rfl) rfl ((blk_cell (((hI.2).block gL2_3 (blk_lt hbxLgL2_3)).trans hbxLgL2_3) 0).trans rfl)) rfl) ?_
          exact .nil
        clear hS
        intro at2003 w2004 hS hI hp
        have hBw2004_w := hI.1
        have hBw2004_wL2 := hI.2
        have hv32 : sl _ 32 = .int .i64 x2_3_0 := hp 1 (by decide)
        have hBw2004_w2004 := Below.refl w2004.heap.size w2004
        have hS := hS.cons hv32
        clear hp hI hv32
        refine hK2002 _ _ ?_
        (try clear hK2002 K2002)
        refine wp_block ?_
        refine wp_seq_k (fun K2005 hK2005 => ?_)
        refine reg_seq (N := 80) (bs := [(32, .int .i64 x2_3_0), (3, .pointer (some ⟨gL2_3, 0, none⟩)), (6, .slice AL2_6 y2_6.length CL2_6)]) (I := fun x => Below w.heap.size w x ∧ Below wL2.heap.size wL2 x ∧ Below w2004.heap.size w2004 x) (ps := [VB (decide (x2_3_0 = 2)), VB (decide (x2_3_0 = 2))]) (by kernel_rfl) ?_ ?_ rfl hS ⟨hBw2004_w, hBw2004_wL2, hBw2004_w2004⟩ ?_ ?_
        · exact fun x y hI hb => ⟨below_step hI.1 hb, below_step hI.2.1 hb, below_step hI.2.2 hb⟩
        · exact .v (.v (.nil))
        · refine .on rfl (fun a w hS hI hp => does_val (x_bin rfl (hS.get 0 rfl) (rfl) (b_eql _ _ _ _ _ _)) rfl) ?_
          refine .asg 0 rfl rfl rfl rfl ?_
          exact .nil
        clear hS
        intro at2006 w2007 hS hI hp
        have hBw2007_w := hI.1
        have hBw2007_wL2 := hI.2.1
        have hBw2007_w2004 := hI.2.2
        have hv33 : sl _ 33 = .bool (decide (x2_3_0 = 2)) := hp 1 (by decide)
        have hBw2007_w2007 := Below.refl w2007.heap.size w2007
        have hS := hS.cons hv33
        clear hp hI hv33
        refine hK2005 _ _ ?_
        (try clear hK2005 K2005)
        refine wp_cond_false ((hS.get 0 rfl).trans (bF (decide_eq_false c2))) ?_
        refine wp_seq_k (fun K2008 hK2008 => ?_)
        refine reg_seq (N := 80) (bs := [(33, .bool (decide (x2_3_0 = 2))), (32, .int .i64 x2_3_0), (3, .pointer (some ⟨gL2_3, 0, none⟩)), (6, .slice AL2_6 y2_6.length CL2_6)]) (I := fun x => Below w.heap.size w x ∧ Below wL2.heap.size wL2 x ∧ Below w2007.heap.size w2007 x) (ps := [VB (decide (x2_3_0 = 11)), VB (decide (x2_3_0 = 11))]) (by kernel_rfl) ?_ ?_ rfl hS ⟨hBw2007_w, hBw2007_wL2, hBw2007_w2007⟩ ?_ ?_
        · exact fun x y hI hb => ⟨below_step hI.1 hb, below_step hI.2.1 hb, below_step hI.2.2 hb⟩
        · exact .v (.v (.nil))
        · refine .on rfl (fun a w hS hI hp => does_val (x_bin rfl (hS.get 1 rfl) (rfl) (b_eql _ _ _ _ _ _)) rfl) ?_
          refine .asg 0 rfl rfl rfl rfl ?_
          exact .nil
        clear hS
        intro at2009 w2010 hS hI hp
        have hBw2010_w := hI.1
        have hBw2010_wL2 := hI.2.1
        have hBw2010_w2007 := hI.2.2
        replace hS := (((hS.nil).cons (hS.get 3 rfl)).cons (hS.get 2 rfl)).cons (hS.get 1 rfl)
        have hv38 : sl _ 38 = .bool (decide (x2_3_0 = 11)) := hp 1 (by decide)
        have hBw2010_w2010 := Below.refl w2010.heap.size w2010
        have hS := hS.cons hv38
        clear hp hI hv38
        refine hK2008 _ _ ?_
        (try clear hK2008 K2008)
        refine wp_cond_true ((hS.get 0 rfl).trans (bT (decide_eq_true c3))) ?_
        refine wp_seq_k (fun K2011 hK2011 => ?_)
        refine reg_any_tail 8 [0, 0, 2, 7, 15, 0, 32, 127, 255] (N := 80) (bs := [(38, .bool (decide (x2_3_0 = 11))), (32, .int .i64 x2_3_0), (3, .pointer (some ⟨gL2_3, 0, none⟩)), (6, .slice AL2_6 y2_6.length CL2_6)]) (I := fun x => Below w.heap.size w x ∧ Below wL2.heap.size wL2 x ∧ Below w2010.heap.size w2010 x) (ps := [IsV (.slice AL2_6 y2_6.length CL2_6), VP gL2_3 11, VI x2_3_11, IsR (Kd.int .u8) 5 w2010.heap.size t2012, IsR (Kd.int .u8) 5 w2010.heap.size t2013, VP gL2_3 12, VI x2_3_12, IsR (Kd.int .u8) 5 w2010.heap.size t2014]) (by kernel_rfl) (by kernel_rfl) (by kernel_rfl) (by decide) ?_ ?_ rfl hS ⟨hBw2010_w, hBw2010_wL2, hBw2010_w2010⟩ ?_ ?_
        · exact fun x y hI hb => ⟨below_step hI.1 hb, below_step hI.2.1 hb, below_step hI.2.2 hb⟩
        · exact .v (.v (.v (.cons (Stays.r _ _ _ _) (.cons (Stays.r _ _ _ _) (.v (.v (.cons (Stays.r _ _ _ _) (.nil))))))))
        · refine .ms 3 rfl rfl rfl ?_
          refine .on rfl (fun a w hS hI hp => does_val (x_fieldE (b := 0) rfl (hS.get 2 rfl) Try.underlying29 rfl rfl (by kernel_rfl)) rfl) ?_
          refine .on rfl (fun a w hS hI hp => does_val (x_load1 (d := .int .i64) rfl (hp.V 1 rfl rfl) (by kernel_rfl) rfl ((blk_cell (((hI.2.1).block gL2_3 (blk_lt hbxLgL2_3)).trans hbxLgL2_3) 11).trans rfl)) rfl) ?_
          refine .on rfl (fun a w hS hI hp => does_call (by kernel_rfl) (ar3 (hp.V 0 rfl rfl) (hp.V 2 rfl rfl) (rfl)) ((octets_Put.calls _ _ y2_6 x2_3_11 2 t2012 _ (Kd.C_below hcL2_6 hI.2.1) hr2_6 At2012).mono fun _ _ h => h.elim fun v0 h => ⟨v0, h.1, h.2.2, Kd.R_lower h.2.1 hI.2.2.size⟩)) ?_
          refine .on rfl (fun a w hS hI hp => (IsC.of_r (hp.V 3 rfl rfl)).elim fun A_ h_ => h_.elim fun c_ h_ => h_.elim fun hv_ h_ => h_.elim fun hl_ hc_ => does_call (by kernel_rfl) (ar3 (hv_) (rfl) (rfl)) ((octets_Put.calls _ _ t2012 0 1 t2013 _ hc_ hl_ At2013).mono fun _ _ h => h.elim fun v0 h => ⟨v0, h.1, h.2.2, Kd.R_lower h.2.1 hI.2.2.size⟩)) ?_
          refine .on rfl (fun a w hS hI hp => does_val (x_fieldE (b := 0) rfl (hS.get 2 rfl) Try.underlying29 rfl rfl (by kernel_rfl)) rfl) ?_
          refine .on rfl (fun a w hS hI hp => does_val (x_load1 (d := .int .i64) rfl (hp.V 5 rfl rfl) (by kernel_rfl) rfl ((blk_cell (((hI.2.1).block gL2_3 (blk_lt hbxLgL2_3)).trans hbxLgL2_3) 12).trans rfl)) rfl) ?_
          refine .on rfl (fun a w hS hI hp => (IsC.of_r (hp.V 4 rfl rfl)).elim fun A_ h_ => h_.elim fun c_ h_ => h_.elim fun hv_ h_ => h_.elim fun hl_ hc_ => does_call (by kernel_rfl) (ar3 (hv_) (hp.V 6 rfl rfl) (rfl)) ((octets_Put.calls _ _ t2013 x2_3_12 1 t2014 _ hc_ hl_ At2014).mono fun _ _ h => h.elim fun v0 h => ⟨v0, h.1, h.2.2, Kd.R_lower h.2.1 hI.2.2.size⟩)) ?_
          exact .nil
        clear hS
        intro at2015 w2016 hS hI hp
        have hBw2016_w := hI.1
        have hBw2016_wL2 := hI.2.1
        have hBw2016_w2010 := hI.2.2
        replace hS := ((hS.nil).cons (hS.get 3 rfl)).cons (hS.get 2 rfl)
        obtain ⟨A2017, C2017, hv47, hl2017, hc2017⟩ := Kd.R_reads (show Kd.R (Kd.int .u8) 5 w2016 w2010.heap.size (fun _ => True) (sl _ 47) t2014 from hp 7 (by decide))
        have ho2017 : Kd.R (Kd.int .u8) 5 w2016 w2010.heap.size (fun _ => True) (.slice A2017 t2014.length C2017) t2014 := hv47 ▸ (hp 7 (by decide))
        have hBw2016_w2016 := Below.refl w2016.heap.size w2016
        have hS := hS.cons hv47
        clear hp hI hv47
        show wpList _ _ _ [_] _ _
        refine list_step rfl (R := fun v w' => Below _ _ w' ∧ (IsV (.slice A2017 t2014.length C2017)) v w') (does_val (x_assign rfl (hS.get 0 rfl)) rfl) ?_
        rintro vw2018 w2018 ⟨hb, he⟩
        have hBw2018_w := below_step hBw2016_w hb
        have hBw2018_wL2 := below_step hBw2016_wL2 hb
        have hBw2018_w2010 := below_step hBw2016_w2010 hb
        have hBw2018_w2016 := below_step hBw2016_w2016 hb
        have hBw2018_w2018 := Below.refl w2018.heap.size w2018
        obtain rfl : vw2018 = .slice A2017 t2014.length C2017 := he
        replace hS := ((hS.nil).cons (hS.get 1 rfl)).cons (hS.get 0 rfl)
        refine hS.next (v := .slice A2017 t2014.length C2017) (d := 6) rfl (by decide) (by rfl) ?_
        clear hS
        intro at2019 hS
        refine wpList_nil ?_
        refine hK2011 _ _ ?_
        (try clear hK2011 K2011)
        refine wp_seq_k (fun K2020 hK2020 => ?_)
        refine reg_any_tail 7 [0, 0, 2, 7, 0, 16, 63, 127] (N := 80) (bs := [(6, .slice A2017 t2014.length C2017), (47, .slice A2017 t2014.length C2017), (3, .pointer (some ⟨gL2_3, 0, none⟩))]) (I := fun x => Below w.heap.size w x ∧ Below wL2.heap.size wL2 x ∧ Below w2010.heap.size w2010 x ∧ Below w2016.heap.size w2016 x ∧ Below w2018.heap.size w2018 x) (ps := [IsV (.slice A2017 t2014.length C2017), VP gL2_3 13, IsV (.agg #[.int .i64 x2_3_13, .int .i64 x2_3_14, .int .i64 x2_3_15]), IsR (Kd.int .u8) 5 w2018.heap.size t2021, VP gL2_3 16, VI x2_3_16, IsR (Kd.int .u8) 5 w2018.heap.size t2022]) (by kernel_rfl) (by kernel_rfl) (by kernel_rfl) (by decide) ?_ ?_ rfl hS ⟨hBw2018_w, hBw2018_wL2, hBw2018_w2010, hBw2018_w2016, hBw2018_w2018⟩ ?_ ?_
        · exact fun x y hI hb => ⟨below_step hI.1 hb, below_step hI.2.1 hb, below_step hI.2.2.1 hb, below_step hI.2.2.2.1 hb, below_step hI.2.2.2.2 hb⟩
        · exact .v (.v (.v (.cons (Stays.r _ _ _ _) (.v (.v (.cons (Stays.r _ _ _ _) (.nil)))))))
        · refine .ms 0 rfl rfl rfl ?_
          refine .on rfl (fun a w hS hI hp => does_val (x_fieldE (b := 0) rfl (hS.get 2 rfl) Try.underlying29 rfl rfl (by kernel_rfl)) rfl) ?_
          refine .on rfl (fun a w hS hI hp => does_loadmid (cs := [.int .i64 x2_3_13, .int .i64 x2_3_14, .int .i64 x2_3_15]) rfl (hp.V 1 rfl rfl) (((hI.2.1).block gL2_3 (blk_lt hbxLgL2_3)).trans hbxLgL2_3) rfl Try.underlying27 rfl (by kernel_rfl) rfl) ?_
          refine .on rfl (fun a w hS hI hp => does_call (by kernel_rfl) (ar2 (hp.V 0 rfl rfl) (hp.V 2 rfl rfl)) ((quality_Put.calls _ _ t2014 x2_3_13 x2_3_14 x2_3_15 t2021 _ (Kd.C_below hc2017 hI.2.2.2.1) hl2017 At2021).mono fun _ _ h => h.elim fun v0 h => ⟨v0, h.1, h.2.2, Kd.R_lower h.2.1 hI.2.2.2.2.size⟩)) ?_
          refine .on rfl (fun a w hS hI hp => does_val (x_fieldE (b := 0) rfl (hS.get 2 rfl) Try.underlying29 rfl rfl (by kernel_rfl)) rfl) ?_
          refine .on rfl (fun a w hS hI hp => does_val (x_load1 (d := .int .i64) rfl (hp.V 4 rfl rfl) (by kernel_rfl) rfl ((blk_cell (((hI.2.1).block gL2_3 (blk_lt hbxLgL2_3)).trans hbxLgL2_3) 16).trans rfl)) rfl) ?_
          refine .on rfl (fun a w hS hI hp => (IsC.of_r (hp.V 3 rfl rfl)).elim fun A_ h_ => h_.elim fun c_ h_ => h_.elim fun hv_ h_ => h_.elim fun hl_ hc_ => does_call (by kernel_rfl) (ar3 (hv_) (hp.V 5 rfl rfl) (rfl)) ((octets_Put.calls _ _ t2021 x2_3_16 1 t2022 _ hc_ hl_ At2022).mono fun _ _ h => h.elim fun v0 h => ⟨v0, h.1, h.2.2, Kd.R_lower h.2.1 hI.2.2.2.2.size⟩)) ?_
          exact .nil
        clear hS
        intro at2023 w2024 hS hI hp
        have hBw2024_w := hI.1
        have hBw2024_wL2 := hI.2.1
        have hBw2024_w2010 := hI.2.2.1
        have hBw2024_w2016 := hI.2.2.2.1
        have hBw2024_w2018 := hI.2.2.2.2
        replace hS := ((hS.nil).cons (hS.get 2 rfl)).cons (hS.get 0 rfl)
        obtain ⟨A2025, C2025, hv54, hl2025, hc2025⟩ := Kd.R_reads (show Kd.R (Kd.int .u8) 5 w2024 w2018.heap.size (fun _ => True) (sl _ 54) t2022 from hp 6 (by decide))
        have ho2025 : Kd.R (Kd.int .u8) 5 w2024 w2018.heap.size (fun _ => True) (.slice A2025 t2022.length C2025) t2022 := hv54 ▸ (hp 6 (by decide))
        have hBw2024_w2024 := Below.refl w2024.heap.size w2024
        have hS := hS.cons hv54
        clear hp hI hv54
        show wpList _ _ _ [_] _ _
        refine list_step rfl (R := fun v w' => Below _ _ w' ∧ (IsV (.slice A2025 t2022.length C2025)) v w') (does_val (x_assign rfl (hS.get 0 rfl)) rfl) ?_
        rintro vw2026 w2026 ⟨hb, he⟩
        have hBw2026_w := below_step hBw2024_w hb
        have hBw2026_wL2 := below_step hBw2024_wL2 hb
        have hBw2026_w2010 := below_step hBw2024_w2010 hb
        have hBw2026_w2016 := below_step hBw2024_w2016 hb
        have hBw2026_w2018 := below_step hBw2024_w2018 hb
        have hBw2026_w2024 := below_step hBw2024_w2024 hb
        have hBw2026_w2026 := Below.refl w2026.heap.size w2026
        obtain rfl : vw2026 = .slice A2025 t2022.length C2025 := he
        replace hS := ((hS.nil).cons (hS.get 2 rfl)).cons (hS.get 0 rfl)
        refine hS.next (v := .slice A2025 t2022.length C2025) (d := 6) rfl (by decide) (by rfl) ?_
        clear hS
        intro at2027 hS
        refine wpList_nil ?_
        refine hK2020 _ _ ?_
        (try clear hK2020 K2020)
        refine reg_any_tail 10 [0, 0, 2, 7, 0, 16, 63, 0, 128, 511, 1023] (N := 80) (bs := [(6, .slice A2025 t2022.length C2025), (54, .slice A2025 t2022.length C2025), (3, .pointer (some ⟨gL2_3, 0, none⟩))]) (I := fun x => Below w.heap.size w x ∧ Below wL2.heap.size wL2 x ∧ Below w2018.heap.size w2018 x ∧ Below w2024.heap.size w2024 x ∧ Below w2026.heap.size w2026 x) (ps := [IsV (.slice A2025 t2022.length C2025), VP gL2_3 17, IsV (.int .u64 x2_3_17), IsR (Kd.int .u8) 5 w2026.heap.size t2028, VP gL2_3 18, VI x2_3_18, IsR (Kd.int .u8) 5 w2026.heap.size t2029, VP gL2_3 19, VI x2_3_19, IsR (Kd.int .u8) 5 w2026.heap.size t2030]) (by kernel_rfl) (by kernel_rfl) (by kernel_rfl) (by decide) ?_ ?_ rfl hS ⟨hBw2026_w, hBw2026_wL2, hBw2026_w2018, hBw2026_w2024, hBw2026_w2026⟩ ?_ ?_
        · exact fun x y hI hb => ⟨below_step hI.1 hb, below_step hI.2.1 hb, below_step hI.2.2.1 hb, below_step hI.2.2.2.1 hb, below_step hI.2.2.2.2 hb⟩
        · exact .v (.v (.v (.cons (Stays.r _ _ _ _) (.v (.v (.cons (Stays.r _ _ _ _) (.v (.v (.cons (Stays.r _ _ _ _) (.nil))))))))))
        · refine .ms 0 rfl rfl rfl ?_
          refine .on rfl (fun a w hS hI hp => does_val (x_fieldE (b := 0) rfl (hS.get 2 rfl) Try.underlying29 rfl rfl (by kernel_rfl)) rfl) ?_
          refine .on rfl (fun a w hS hI hp => does_val (x_load1 (d := .int .u64) rfl (hp.V 1 rfl rfl) (by kernel_rfl) rfl ((blk_cell (((hI.2.1).block gL2_3 (blk_lt hbxLgL2_3)).trans hbxLgL2_3) 17).trans rfl)) rfl) ?_
          refine .on rfl (fun a w hS hI hp => does_call (by kernel_rfl) (ar2 (hp.V 0 rfl rfl) (hp.V 2 rfl rfl)) ((octets_PutId.calls _ _ t2022 x2_3_17 t2028 _ (Kd.C_below hc2025 hI.2.2.2.1) hl2025 At2028).mono fun _ _ h => h.elim fun v0 h => ⟨v0, h.1, h.2.2, Kd.R_lower h.2.1 hI.2.2.2.2.size⟩)) ?_
          refine .on rfl (fun a w hS hI hp => does_val (x_fieldE (b := 0) rfl (hS.get 2 rfl) Try.underlying29 rfl rfl (by kernel_rfl)) rfl) ?_
          refine .on rfl (fun a w hS hI hp => does_val (x_load1 (d := .int .i64) rfl (hp.V 4 rfl rfl) (by kernel_rfl) rfl ((blk_cell (((hI.2.1).block gL2_3 (blk_lt hbxLgL2_3)).trans hbxLgL2_3) 18).trans rfl)) rfl) ?_
          refine .on rfl (fun a w hS hI hp => (IsC.of_r (hp.V 3 rfl rfl)).elim fun A_ h_ => h_.elim fun c_ h_ => h_.elim fun hv_ h_ => h_.elim fun hl_ hc_ => does_call (by kernel_rfl) (ar3 (hv_) (hp.V 5 rfl rfl) (rfl)) ((octets_Put.calls _ _ t2028 x2_3_18 2 t2029 _ hc_ hl_ At2029).mono fun _ _ h => h.elim fun v0 h => ⟨v0, h.1, h.2.2, Kd.R_lower h.2.1 hI.2.2.2.2.size⟩)) ?_
          refine .on rfl (fun a w hS hI hp => does_val (x_fieldE (b := 0) rfl (hS.get 2 rfl) Try.underlying29 rfl rfl (by kernel_rfl)) rfl) ?_
          refine .on rfl (fun a w hS hI hp => does_val (x_load1 (d := .int .i64) rfl (hp.V 7 rfl rfl) (by kernel_rfl) rfl ((blk_cell (((hI.2.1).block gL2_3 (blk_lt hbxLgL2_3)).trans hbxLgL2_3) 19).trans rfl)) rfl) ?_
          refine .on rfl (fun a w hS hI hp => (IsC.of_r (hp.V 6 rfl rfl)).elim fun A_ h_ => h_.elim fun c_ h_ => h_.elim fun hv_ h_ => h_.elim fun hl_ hc_ => does_call (by kernel_rfl) (ar3 (hv_) (hp.V 8 rfl rfl) (rfl)) ((octets_Put.calls _ _ t2029 x2_3_19 1 t2030 _ hc_ hl_ At2030).mono fun _ _ h => h.elim fun v0 h => ⟨v0, h.1, h.2.2, Kd.R_lower h.2.1 hI.2.2.2.2.size⟩)) ?_
          exact .nil
        clear hS
        intro at2031 w2032 hS hI hp
        have hBw2032_w := hI.1
        have hBw2032_wL2 := hI.2.1
        have hBw2032_w2018 := hI.2.2.1
        have hBw2032_w2024 := hI.2.2.2.1
        have hBw2032_w2026 := hI.2.2.2.2
        replace hS := (hS.nil).cons (hS.get 0 rfl)
        obtain ⟨A2033, C2033, hv64, hl2033, hc2033⟩ := Kd.R_reads (show Kd.R (Kd.int .u8) 5 w2032 w2026.heap.size (fun _ => True) (sl _ 64) t2030 from hp 9 (by decide))
        have ho2033 : Kd.R (Kd.int .u8) 5 w2032 w2026.heap.size (fun _ => True) (.slice A2033 t2030.length C2033) t2030 := hv64 ▸ (hp 9 (by decide))
        have hBw2032_w2032 := Below.refl w2032.heap.size w2032
        have hS := hS.cons hv64
        clear hp hI hv64
        show wpList _ _ _ [_] _ _
        refine list_step rfl (R := fun v w' => Below _ _ w' ∧ (IsV (.slice A2033 t2030.length C2033)) v w') (does_val (x_assign rfl (hS.get 0 rfl)) rfl) ?_
        rintro vw2034 w2034 ⟨hb, he⟩
        have hBw2034_w := below_step hBw2032_w hb
        have hBw2034_wL2 := below_step hBw2032_wL2 hb
        have hBw2034_w2018 := below_step hBw2032_w2018 hb
        have hBw2034_w2024 := below_step hBw2032_w2024 hb
        have hBw2034_w2026 := below_step hBw2032_w2026 hb
        have hBw2034_w2032 := below_step hBw2032_w2032 hb
        have hBw2034_w2034 := Below.refl w2034.heap.size w2034
        obtain rfl : vw2034 = .slice A2033 t2030.length C2033 := he
        replace hS := (hS.nil).cons (hS.get 0 rfl)
        refine hS.next (v := .slice A2033 t2030.length C2033) (d := 6) rfl (by decide) (by rfl) ?_
        clear hS
        intro at2035 hS
        refine wpList_nil ?_
        replace hS := (hS.nil).cons (hS.get 0 rfl)
        (try simp only [Exit.then, Exit.inBlock])
        exact J3 _ _ t2030 A2033 C2033 H hS hBw2034_w hl2033 (Kd.C_below hc2033 hBw2034_w2032)
      rw [if_neg c3] at H
      by_cases c4 : x2_3_0 = 13
      rotate_left
      · rw [if_neg c4] at H
        refine wp_seq_k (fun K2002 hK2002 => ?_)
        refine reg_seq (N := 80) (bs := [(3, .pointer (some ⟨gL2_3, 0, none⟩)), (6, .slice AL2_6 y2_6.length CL2_6)]) (I := fun x => Below w.heap.size w x ∧ Below wL2.heap.size wL2 x) (ps := [VP gL2_3 0, VI x2_3_0]) (by kernel_rfl) ?_ ?_ rfl hS ⟨hBwL2_w, hBwL2_wL2⟩ ?_ ?_
        · exact fun x y hI hb => ⟨below_step hI.1 hb, below_step hI.2 hb⟩
        · exact .v (.v (.nil))
        · refine .on rfl (fun a w hS hI hp => does_val (x_fieldE (b := 0) rfl (hS.get 0 rfl) Try.underlying29 rfl rfl (by kernel_rfl)) rfl) ?_
          refine .on rfl (fun a w hS hI hp => does_val (x_load1 (d := .int .i64) rfl (hp.V 0 rfl rfl) (by kernel_rfl) rfl ((blk_cell (((hI.2).block gL2_3 (blk_lt hbxLgL2_3)).trans hbxLgL2_3) 0).trans rfl)) rfl) ?_
          exact .nil
        clear hS
        intro at2003 w2004 hS hI hp
        have hBw2004_w := hI.1
        have hBw2004_wL2 := hI.2
        have hv32 : sl _ 32 = .int .i64 x2_3_0 := hp 1 (by decide)
        have hBw2004_w2004 := Below.refl w2004.heap.size w2004
        have hS := hS.cons hv32
        clear hp hI hv32
        refine hK2002 _ _ ?_
        (try clear hK2002 K2002)
        refine wp_block ?_
        refine wp_seq_k (fun K2005 hK2005 => ?_)
        refine reg_seq (N := 80) (bs := [(32, .int .i64 x2_3_0), (3, .pointer (some ⟨gL2_3, 0, none⟩)), (6, .slice AL2_6 y2_6.length CL2_6)]) (I := fun x => Below w.heap.size w x ∧ Below wL2.heap.size wL2 x ∧ Below w2004.heap.size w2004 x) (ps := [VB (decide (x2_3_0 = 2)), VB (decide (x2_3_0 = 2))]) (by kernel_rfl) ?_ ?_ rfl hS ⟨hBw2004_w, hBw2004_wL2, hBw2004_w2004⟩ ?_ ?_
        · exact fun x y hI hb => ⟨below_step hI.1 hb, below_step hI.2.1 hb, below_step hI.2.2 hb⟩
        · exact .v (.v (.nil))
        · refine .on rfl (fun a w hS hI hp => does_val (x_bin rfl (hS.get 0 rfl) (rfl) (b_eql _ _ _ _ _ _)) rfl) ?_
          refine .asg 0 rfl rfl rfl rfl ?_
          exact .nil
        clear hS
        intro at2006 w2007 hS hI hp
        have hBw2007_w := hI.1
        have hBw2007_wL2 := hI.2.1
        have hBw2007_w2004 := hI.2.2
        have hv33 : sl _ 33 = .bool (decide (x2_3_0 = 2)) := hp 1 (by decide)
        have hBw2007_w2007 := Below.refl w2007.heap.size w2007
        have hS := hS.cons hv33
        clear hp hI hv33
        refine hK2005 _ _ ?_
        (try clear hK2005 K2005)
        refine wp_cond_false ((hS.get 0 rfl).trans (bF (decide_eq_false c2))) ?_
        refine wp_seq_k (fun K2008 hK2008 => ?_)
        refine reg_seq (N := 80) (bs := [(33, .bool (decide (x2_3_0 = 2))), (32, .int .i64 x2_3_0), (3, .pointer (some ⟨gL2_3, 0, none⟩)), (6, .slice AL2_6 y2_6.length CL2_6)]) (I := fun x => Below w.heap.size w x ∧ Below wL2.heap.size wL2 x ∧ Below w2007.heap.size w2007 x) (ps := [VB (decide (x2_3_0 = 11)), VB (decide (x2_3_0 = 11))]) (by kernel_rfl) ?_ ?_ rfl hS ⟨hBw2007_w, hBw2007_wL2, hBw2007_w2007⟩ ?_ ?_
        · exact fun x y hI hb => ⟨below_step hI.1 hb, below_step hI.2.1 hb, below_step hI.2.2 hb⟩
        · exact .v (.v (.nil))
        · refine .on rfl (fun a w hS hI hp => does_val (x_bin rfl (hS.get 1 rfl) (rfl) (b_eql _ _ _ _ _ _)) rfl) ?_
          refine .asg 0 rfl rfl rfl rfl ?_
          exact .nil
        clear hS
        intro at2009 w2010 hS hI hp
        have hBw2010_w := hI.1
        have hBw2010_wL2 := hI.2.1
        have hBw2010_w2007 := hI.2.2
        replace hS := (((hS.nil).cons (hS.get 3 rfl)).cons (hS.get 2 rfl)).cons (hS.get 1 rfl)
        have hv38 : sl _ 38 = .bool (decide (x2_3_0 = 11)) := hp 1 (by decide)
        have hBw2010_w2010 := Below.refl w2010.heap.size w2010
        have hS := hS.cons hv38
        clear hp hI hv38
        refine hK2008 _ _ ?_
        (try clear hK2008 K2008)
        refine wp_cond_false ((hS.get 0 rfl).trans (bF (decide_eq_false c3))) ?_
        refine wp_seq_k (fun K2011 hK2011 => ?_)
        refine reg_seq (N := 80) (bs := [(38, .bool (decide (x2_3_0 = 11))), (32, .int .i64 x2_3_0), (3, .pointer (some ⟨gL2_3, 0, none⟩)), (6, .slice AL2_6 y2_6.length CL2_6)]) (I := fun x => Below w.heap.size w x ∧ Below wL2.heap.size wL2 x ∧ Below w2010.heap.size w2010 x) (ps := [VB (decide (x2_3_0 = 13)), VB (decide (x2_3_0 = 13))]) (by kernel_rfl) ?_ ?_ rfl hS ⟨hBw2010_w, hBw2010_wL2, hBw2010_w2010⟩ ?_ ?_
        · exact fun x y hI hb => ⟨below_step hI.1 hb, below_step hI.2.1 hb, below_step hI.2.2 hb⟩
        · exact .v (.v (.nil))
        · refine .on rfl (fun a w hS hI hp => does_val (x_bin rfl (hS.get 1 rfl) (rfl) (b_eql _ _ _ _ _ _)) rfl) ?_
          refine .asg 0 rfl rfl rfl rfl ?_
          exact .nil
        clear hS
        intro at2012 w2013 hS hI hp
        have hBw2013_w := hI.1
        have hBw2013_wL2 := hI.2.1
        have hBw2013_w2010 := hI.2.2
        replace hS := ((hS.nil).cons (hS.get 3 rfl)).cons (hS.get 2 rfl)
        have hv65 : sl _ 65 = .bool (decide (x2_3_0 = 13)) := hp 1 (by decide)
        have hBw2013_w2013 := Below.refl w2013.heap.size w2013
        have hS := hS.cons hv65
        clear hp hI hv65
        refine hK2011 _ _ ?_
        (try clear hK2011 K2011)
        refine wp_cond_false ((hS.get 0 rfl).trans (bF (decide_eq_false c4))) ?_
        refine wp_skip ?_
        replace hS := (hS.nil).cons (hS.get 2 rfl)
        (try simp only [Exit.then, Exit.inBlock])
        exact J3 _ _ y2_6 AL2_6 CL2_6 H hS hBw2013_w hr2_6 (Kd.C_below hcL2_6 hBw2013_wL2)
      rw [if_pos c4] at H
      obtain ⟨t2015, At2015, H⟩ := Option.bind_eq_some_iff.mp H
      obtain ⟨t2016, At2016, H⟩ := Option.bind_eq_some_iff.mp H
      obtain ⟨t2022, At2022, H⟩ := Option.bind_eq_some_iff.mp H
      obtain ⟨t2023, At2023, H⟩ := Option.bind_eq_some_iff.mp H
      refine wp_seq_k (fun K2002 hK2002 => ?_)
      refine reg_seq (N := 80) (bs := [(3, .pointer (some ⟨gL2_3, 0, none⟩)), (6, .slice AL2_6 y2_6.length CL2_6)]) (I := fun x => Below w.heap.size w x ∧ Below wL2.heap.size wL2 x) (ps := [VP gL2_3 0, VI x2_3_0]) (by kernel_rfl) ?_ ?_ rfl hS ⟨hBwL2_w, hBwL2_wL2⟩ ?_ ?_
      · exact fun x y hI hb => ⟨below_step hI.1 hb, below_step hI.2 hb⟩
      · exact .v (.v (.nil))
      · refine .on rfl (fun a w hS hI hp => does_val (x_fieldE (b := 0) rfl (hS.get 0 rfl) Try.underlying29 rfl rfl (by kernel_rfl)) rfl) ?_
        refine .on rfl (fun a w hS hI hp => does_val (x_load1 (d := .int .i64) rfl (hp.V 0 rfl rfl) (by kernel_rfl) rfl ((blk_cell (((hI.2).block gL2_3 (blk_lt hbxLgL2_3)).trans hbxLgL2_3) 0).trans rfl)) rfl) ?_
        exact .nil
      clear hS
      intro at2003 w2004 hS hI hp
      have hBw2004_w := hI.1
      have hBw2004_wL2 := hI.2
      have hv32 : sl _ 32 = .int .i64 x2_3_0 := hp 1 (by decide)
      have hBw2004_w2004 := Below.refl w2004.heap.size w2004
      have hS := hS.cons hv32
      clear hp hI hv32
      refine hK2002 _ _ ?_
      (try clear hK2002 K2002)
      refine wp_block ?_
      refine wp_seq_k (fun K2005 hK2005 => ?_)
      refine reg_seq (N := 80) (bs := [(32, .int .i64 x2_3_0), (3, .pointer (some ⟨gL2_3, 0, none⟩)), (6, .slice AL2_6 y2_6.length CL2_6)]) (I := fun x => Below w.heap.size w x ∧ Below wL2.heap.size wL2 x ∧ Below w2004.heap.size w2004 x) (ps := [VB (decide (x2_3_0 = 2)), VB (decide (x2_3_0 = 2))]) (by kernel_rfl) ?_ ?_ rfl hS ⟨hBw2004_w, hBw2004_wL2, hBw2004_w2004⟩ ?_ ?_
      · exact fun x y hI hb => ⟨below_step hI.1 hb, below_step hI.2.1 hb, below_step hI.2.2 hb⟩
      · exact .v (.v (.nil))
      · refine .on rfl (fun a w hS hI hp => does_val (x_bin rfl (hS.get 0 rfl) (rfl) (b_eql _ _ _ _ _ _)) rfl) ?_
        refine .asg 0 rfl rfl rfl rfl ?_
        exact .nil
      clear hS
      intro at2006 w2007 hS hI hp
      have hBw2007_w := hI.1
      have hBw2007_wL2 := hI.2.1
      have hBw2007_w2004 := hI.2.2
      have hv33 : sl _ 33 = .bool (decide (x2_3_0 = 2)) := hp 1 (by decide)
      have hBw2007_w2007 := Below.refl w2007.heap.size w2007
      have hS := hS.cons hv33
      clear hp hI hv33
      refine hK2005 _ _ ?_
      (try clear hK2005 K2005)
      refine wp_cond_false ((hS.get 0 rfl).trans (bF (decide_eq_false c2))) ?_
      refine wp_seq_k (fun K2008 hK2008 => ?_)
      refine reg_seq (N := 80) (bs := [(33, .bool (decide (x2_3_0 = 2))), (32, .int .i64 x2_3_0), (3, .pointer (some ⟨gL2_3, 0, none⟩)), (6, .slice AL2_6 y2_6.length CL2_6)]) (I := fun x => Below w.heap.size w x ∧ Below wL2.heap.size wL2 x ∧ Below w2007.heap.size w2007 x) (ps := [VB (decide (x2_3_0 = 11)), VB (decide (x2_3_0 = 11))]) (by kernel_rfl) ?_ ?_ rfl hS ⟨hBw2007_w, hBw2007_wL2, hBw2007_w2007⟩ ?_ ?_
      · exact fun x y hI hb => ⟨below_step hI.1 hb, below_step hI.2.1 hb, below_step hI.2.2 hb⟩
      · exact .v (.v (.nil))
      · refine .on rfl (fun a w hS hI hp => does_val (x_bin rfl (hS.get 1 rfl) (rfl) (b_eql _ _ _ _ _ _)) rfl) ?_
        refine .asg 0 rfl rfl rfl rfl ?_
        exact .nil
      clear hS
      intro at2009 w2010 hS hI hp
      have hBw2010_w := hI.1
      have hBw2010_wL2 := hI.2.1
      have hBw2010_w2007 := hI.2.2
      replace hS := (((hS.nil).cons (hS.get 3 rfl)).cons (hS.get 2 rfl)).cons (hS.get 1 rfl)
      have hv38 : sl _ 38 = .bool (decide (x2_3_0 = 11)) := hp 1 (by decide)
      have hBw2010_w2010 := Below.refl w2010.heap.size w2010
      have hS := hS.cons hv38
      clear hp hI hv38
      refine hK2008 _ _ ?_
      (try clear hK2008 K2008)
      refine wp_cond_false ((hS.get 0 rfl).trans (bF (decide_eq_false c3))) ?_
      refine wp_seq_k (fun K2011 hK2011 => ?_)
      refine reg_seq (N := 80) (bs := [(38, .bool (decide (x2_3_0 = 11))), (32, .int .i64 x2_3_0), (3, .pointer (some ⟨gL2_3, 0, none⟩)), (6, .slice AL2_6 y2_6.length CL2_6)]) (I := fun x => Below w.heap.size w x ∧ Below wL2.heap.size wL2 x ∧ Below w2010.heap.size w2010 x) (ps := [VB (decide (x2_3_0 = 13)), VB (decide (x2_3_0 = 13))]) (by kernel_rfl) ?_ ?_ rfl hS ⟨hBw2010_w, hBw2010_wL2, hBw2010_w2010⟩ ?_ ?_
      · exact fun x y hI hb => ⟨below_step hI.1 hb, below_step hI.2.1 hb, below_step hI.2.2 hb⟩
      · exact .v (.v (.nil))
      · refine .on rfl (fun a w hS hI hp => does_val (x_bin rfl (hS.get 1 rfl) (rfl) (b_eql _ _ _ _ _ _)) rfl) ?_
        refine .asg 0 rfl rfl rfl rfl ?_
        exact .nil
      clear hS
      intro at2012 w2013 hS hI hp
      have hBw2013_w := hI.1
      have hBw2013_wL2 := hI.2.1
      have hBw2013_w2010 := hI.2.2
      replace hS := ((hS.nil).cons (hS.get 3 rfl)).cons (hS.get 2 rfl)
      have hv65 : sl _ 65 = .bool (decide (x2_3_0 = 13)) := hp 1 (by decide)
      have hBw2013_w2013 := Below.refl w2013.heap.size w2013
      have hS := hS.cons hv65
      clear hp hI hv65
      refine hK2011 _ _ ?_
      (try clear hK2011 K2011)
      refine wp_cond_true ((hS.get 0 rfl).trans (bT (decide_eq_true c4))) ?_
      refine wp_seq_k (fun K2014 hK2014 => ?_)
      refine reg_any_tail 7 [0, 0, 2, 7, 0, 16, 63, 127] (N := 80) (bs := [(65, .bool (decide (x2_3_0 = 13))), (3, .pointer (some ⟨gL2_3, 0, none⟩)), (6, .slice AL2_6 y2_6.length CL2_6)]) (I := fun x => Below w.heap.size w x ∧ Below wL2.heap.size wL2 x ∧ Below w2013.heap.size w2013 x) (ps := [IsV (.slice AL2_6 y2_6.length CL2_6), VP gL2_3 20, VI x2_3_20, IsR (Kd.int .u8) 5 w2013.heap.size t2015, VP gL2_3 21, VI x2_3_21, IsR (Kd.int .u8) 5 w2013.heap.size t2016]) (by kernel_rfl) (by kernel_rfl) (by kernel_rfl) (by decide) ?_ ?_ rfl hS ⟨hBw2013_w, hBw2013_wL2, hBw2013_w2013⟩ ?_ ?_
      · exact fun x y hI hb => ⟨below_step hI.1 hb, below_step hI.2.1 hb, below_step hI.2.2 hb⟩
      · exact .v (.v (.v (.cons (Stays.r _ _ _ _) (.v (.v (.cons (Stays.r _ _ _ _) (.nil)))))))
      · refine .ms 2 rfl rfl rfl ?_
        refine .on rfl (fun a w hS hI hp => does_val (x_fieldE (b := 0) rfl (hS.get 1 rfl) Try.underlying29 rfl rfl (by kernel_rfl)) rfl) ?_
        refine .on rfl (fun a w hS hI hp => does_val (x_load1 (d := .int .i64) rfl (hp.V 1 rfl rfl) (by kernel_rfl) rfl ((blk_cell (((hI.2.1).block gL2_3 (blk_lt hbxLgL2_3)).trans hbxLgL2_3) 20).trans rfl)) rfl) ?_
        refine .on rfl (fun a w hS hI hp => does_call (by kernel_rfl) (ar3 (hp.V 0 rfl rfl) (hp.V 2 rfl rfl) (rfl)) ((octets_Put.calls _ _ y2_6 x2_3_20 1 t2015 _ (Kd.C_below hcL2_6 hI.2.1) hr2_6 At2015).mono fun _ _ h => h.elim fun v0 h => ⟨v0, h.1, h.2.2, Kd.R_lower h.2.1 hI.2.2.size⟩)) ?_
        refine .on rfl (fun a w hS hI hp => does_val (x_fieldE (b := 0) rfl (hS.get 1 rfl) Try.underlying29 rfl rfl (by kernel_rfl)) rfl) ?_
        refine .on rfl (fun a w hS hI hp => does_val (x_load1 (d := .int .i64) rfl (hp.V 4 rfl rfl) (by kernel_rfl) rfl ((blk_cell (((hI.2.1).block gL2_3 (blk_lt hbxLgL2_3)).trans hbxLgL2_3) 21).trans rfl)) rfl) ?_
        refine .on rfl (fun a w hS hI hp => (IsC.of_r (hp.V 3 rfl rfl)).elim fun A_ h_ => h_.elim fun c_ h_ => h_.elim fun hv_ h_ => h_.elim fun hl_ hc_ => does_call (by kernel_rfl) (ar3 (hv_) (hp.V 5 rfl rfl) (rfl)) ((octets_Put.calls _ _ t2015 x2_3_21 1 t2016 _ hc_ hl_ At2016).mono fun _ _ h => h.elim fun v0 h => ⟨v0, h.1, h.2.2, Kd.R_lower h.2.1 hI.2.2.size⟩)) ?_
        exact .nil
      clear hS
      intro at2017 w2018 hS hI hp
      have hBw2018_w := hI.1
      have hBw2018_wL2 := hI.2.1
      have hBw2018_w2013 := hI.2.2
      replace hS := ((hS.nil).cons (hS.get 2 rfl)).cons (hS.get 1 rfl)
      obtain ⟨A2019, C2019, hv73, hl2019, hc2019⟩ := Kd.R_reads (show Kd.R (Kd.int .u8) 5 w2018 w2013.heap.size (fun _ => True) (sl _ 73) t2016 from hp 6 (by decide))
      have ho2019 : Kd.R (Kd.int .u8) 5 w2018 w2013.heap.size (fun _ => True) (.slice A2019 t2016.length C2019) t2016 := hv73 ▸ (hp 6 (by decide))
      have hBw2018_w2018 := Below.refl w2018.heap.size w2018
      have hS := hS.cons hv73
      clear hp hI hv73
      show wpList _ _ _ [_] _ _
      refine list_step rfl (R := fun v w' => Below _ _ w' ∧ (IsV (.slice A2019 t2016.length C2019)) v w') (does_val (x_assign rfl (hS.get 0 rfl)) rfl) ?_
      rintro vw2020 w2020 ⟨hb, he⟩
      have hBw2020_w := below_step hBw2018_w hb
      have hBw2020_wL2 := below_step hBw2018_wL2 hb
      have hBw2020_w2013 := below_step hBw2018_w2013 hb
      have hBw2020_w2018 := below_step hBw2018_w2018 hb
      have hBw2020_w2020 := Below.refl w2020.heap.size w2020
      obtain rfl : vw2020 = .slice A2019 t2016.length C2019 := he
      replace hS := ((hS.nil).cons (hS.get 1 rfl)).cons (hS.get 0 rfl)
      refine hS.next (v := .slice A2019 t2016.length C2019) (d := 6) rfl (by decide) (by rfl) ?_
      clear hS
      intro at2021 hS
      refine wpList_nil ?_
      refine hK2014 _ _ ?_
      (try clear hK2014 K2014)
      refine reg_seq_tail 5 (N := 80) (bs := [(6, .slice A2019 t2016.length C2019), (73, .slice A2019 t2016.length C2019), (3, .pointer (some ⟨gL2_3, 0, none⟩))]) (I := fun x => Below w.heap.size w x ∧ Below wL2.heap.size wL2 x ∧ Below w2013.heap.size w2013 x ∧ Below w2018.heap.size w2018 x ∧ Below w2020.heap.size w2020 x) (ps := [IsV (.slice A2019 t2016.length C2019), VP gL2_3 22, VI x2_3_22, IsR (Kd.int .u8) 5 w2020.heap.size t2022, IsR (Kd.int .u8) 5 w2020.heap.size t2023]) (by kernel_rfl) ?_ ?_ rfl hS ⟨hBw2020_w, hBw2020_wL2, hBw2020_w2013, hBw2020_w2018, hBw2020_w2020⟩ ?_ ?_
      · exact fun x y hI hb => ⟨below_step hI.1 hb, below_step hI.2.1 hb, below_step hI.2.2.1 hb, below_step hI.2.2.2.1 hb, below_step hI.2.2.2.2 hb⟩
      · exact .v (.v (.v (.cons (Stays.r _ _ _ _) (.cons (Stays.r _ _ _ _) (.nil)))))
      · refine .ms 0 rfl rfl rfl ?_
        refine .on rfl (fun a w hS hI hp => does_val (x_fieldE (b := 0) rfl (hS.get 2 rfl) Try.underlying29 rfl rfl (by kernel_rfl)) rfl) ?_
        refine .on rfl (fun a w hS hI hp => does_val (x_load1 (d := .int .i64) rfl (hp.V 1 rfl rfl) (by kernel_rfl) rfl ((blk_cell (((hI.2.1).block gL2_3 (blk_lt hbxLgL2_3)).trans hbxLgL2_3) 22).trans rfl)) rfl) ?_
        refine .on rfl (fun a w hS hI hp => does_call (by kernel_rfl) (ar3 (hp.V 0 rfl rfl) (hp.V 2 rfl rfl) (rfl)) ((octets_Put.calls _ _ t2016 x2_3_22 1 t2022 _ (Kd.C_below hc2019 hI.2.2.2.1) hl2019 At2022).mono fun _ _ h => h.elim fun v0 h => ⟨v0, h.1, h.2.2, Kd.R_lower h.2.1 hI.2.2.2.2.size⟩)) ?_
        refine .on rfl (fun a w hS hI hp => (IsC.of_r (hp.V 3 rfl rfl)).elim fun A_ h_ => h_.elim fun c_ h_ => h_.elim fun hv_ h_ => h_.elim fun hl_ hc_ => does_call (by kernel_rfl) (ar3 (hv_) (rfl) (rfl)) ((octets_Put.calls _ _ t2022 0 1 t2023 _ hc_ hl_ At2023).mono fun _ _ h => h.elim fun v0 h => ⟨v0, h.1, h.2.2, Kd.R_lower h.2.1 hI.2.2.2.2.size⟩)) ?_
        exact .nil
      clear hS
      intro at2024 w2025 hS hI hp
      have hBw2025_w := hI.1
      have hBw2025_wL2 := hI.2.1
      have hBw2025_w2013 := hI.2.2.1
      have hBw2025_w2018 := hI.2.2.2.1
      have hBw2025_w2020 := hI.2.2.2.2
      replace hS := (hS.nil).cons (hS.get 0 rfl)
      obtain ⟨A2026, C2026, hv78, hl2026, hc2026⟩ := Kd.R_reads (show Kd.R (Kd.int .u8) 5 w2025 w2020.heap.size (fun _ => True) (sl _ 78) t2023 from hp 4 (by decide))
      have ho2026 : Kd.R (Kd.int .u8) 5 w2025 w2020.heap.size (fun _ => True) (.slice A2026 t2023.length C2026) t2023 := hv78 ▸ (hp 4 (by decide))
      have hBw2025_w2025 := Below.refl w2025.heap.size w2025
      have hS := hS.cons hv78
      clear hp hI hv78
      show wpList _ _ _ [_] _ _
      refine list_step rfl (R := fun v w' => Below _ _ w' ∧ (IsV (.slice A2026 t2023.length C2026)) v w') (does_val (x_assign rfl (hS.get 0 rfl)) rfl) ?_
      rintro vw2027 w2027 ⟨hb, he⟩
      have hBw2027_w := below_step hBw2025_w hb
      have hBw2027_wL2 := below_step hBw2025_wL2 hb
      have hBw2027_w2013 := below_step hBw2025_w2013 hb
      have hBw2027_w2018 := below_step hBw2025_w2018 hb
      have hBw2027_w2020 := below_step hBw2025_w2020 hb
      have hBw2027_w2025 := below_step hBw2025_w2025 hb
      have hBw2027_w2027 := Below.refl w2027.heap.size w2027
      obtain rfl : vw2027 = .slice A2026 t2023.length C2026 := he
      replace hS := (hS.nil).cons (hS.get 0 rfl)
      refine hS.next (v := .slice A2026 t2023.length C2026) (d := 6) rfl (by decide) (by rfl) ?_
      clear hS
      intro at2028 hS
      refine wpList_nil ?_
      replace hS := (hS.nil).cons (hS.get 0 rfl)
      (try simp only [Exit.then, Exit.inBlock])
      exact J3 _ _ t2023 A2026 C2026 H hS hBw2027_w hl2026 (Kd.C_below hc2026 hBw2027_w2025)
    obtain ⟨t1003, At1003, H⟩ := Option.bind_eq_some_iff.mp H
    by_cases c2 : t1003 = true
    rotate_left
    · rw [if_neg c2] at H
      refine wp_seq_k (fun K1002 hK1002 => ?_)
      refine reg_seq (N := 80) (bs := [(3, .pointer (some ⟨gL1_3, 0, none⟩)), (6, .slice AL1_6 y1_6.length CL1_6)]) (I := fun x => Below w.heap.size w x ∧ Below wL1.heap.size wL1 x) (ps := [VP gL1_3 0, VI x1_3_0, VB t1003]) (by kernel_rfl) ?_ ?_ rfl hS ⟨hBwL1_w, hBwL1_wL1⟩ ?_ ?_
      · exact fun x y hI hb => ⟨below_step hI.1 hb, below_step hI.2 hb⟩
      · exact .v (.v (.v (.nil)))
      · refine .on rfl (fun a w hS hI hp => does_val (x_fieldE (b := 0) rfl (hS.get 0 rfl) Try.underlying29 rfl rfl (by kernel_rfl)) rfl) ?_
        refine .on rfl (fun a w hS hI hp => does_val (x_load1 (d := .int .i64) rfl (hp.V 0 rfl rfl) (by kernel_rfl) rfl ((blk_cell (((hI.2).block gL1_3 (blk_lt hbxLgL1_3)).trans hbxLgL1_3) 0).trans rfl)) rfl) ?_
        refine .on rfl (fun a w hS hI hp => does_call (by kernel_rfl) (ar1 (hp.V 1 rfl rfl)) ((body_targeted.calls x1_3_0 t1003 _  At1003).mono fun _ _ h => ⟨_, h.1, h.2.below, rfl⟩)) ?_
        exact .nil
      clear hS
      intro at1004 w1005 hS hI hp
      have hBw1005_w := hI.1
      have hBw1005_wL1 := hI.2
      have hv26 : sl _ 26 = .bool t1003 := hp 2 (by decide)
      have hBw1005_w1005 := Below.refl w1005.heap.size w1005
      have hS := hS.cons hv26
      clear hp hI hv26
      refine hK1002 _ _ ?_
      (try clear hK1002 K1002)
      refine wp_cond_false ((hS.get 0 rfl).trans (bF (Bool.eq_false_iff.2 c2))) ?_
      refine wp_skip ?_
      replace hS := ((hS.nil).cons (hS.get 2 rfl)).cons (hS.get 1 rfl)
      (try simp only [Exit.then, Exit.inBlock])
      exact J2 _ _ x1_3_0 x1_3_1 x1_3_2 x1_3_3 x1_3_4 x1_3_5 x1_3_6 x1_3_7 x1_3_8 x1_3_9 x1_3_10 x1_3_11 x1_3_12 x1_3_13 x1_3_14 x1_3_15 x1_3_16 x1_3_17 x1_3_18 x1_3_19 x1_3_20 x1_3_21 x1_3_22 gL1_3 y1_6 AL1_6 CL1_6 H hS hBw1005_w hgeLgL1_3 ((hBw1005_wL1.block gL1_3 (blk_lt hbxLgL1_3)).trans hbxLgL1_3) hr1_6 (Kd.C_below hcL1_6 hBw1005_wL1)
    rw [if_pos c2] at H
    obtain ⟨t1006, At1006, H⟩ := Option.bind_eq_some_iff.mp H
    refine wp_seq_k (fun K1002 hK1002 => ?_)
    refine reg_seq (N := 80) (bs := [(3, .pointer (some ⟨gL1_3, 0, none⟩)), (6, .slice AL1_6 y1_6.length CL1_6)]) (I := fun x => Below w.heap.size w x ∧ Below wL1.heap.size wL1 x) (ps := [VP gL1_3 0, VI x1_3_0, VB t1003]) (by kernel_rfl) ?_ ?_ rfl hS ⟨hBwL1_w, hBwL1_wL1⟩ ?_ ?_
    · exact fun x y hI hb => ⟨below_step hI.1 hb, below_step hI.2 hb⟩
    · exact .v (.v (.v (.nil)))
    · refine .on rfl (fun a w hS hI hp => does_val (x_fieldE (b := 0) rfl (hS.get 0 rfl) Try.underlying29 rfl rfl (by kernel_rfl)) rfl) ?_
      refine .on rfl (fun a w hS hI hp => does_val (x_load1 (d := .int .i64) rfl (hp.V 0 rfl rfl) (by kernel_rfl) rfl ((blk_cell (((hI.2).block gL1_3 (blk_lt hbxLgL1_3)).trans hbxLgL1_3) 0).trans rfl)) rfl) ?_
      refine .on rfl (fun a w hS hI hp => does_call (by kernel_rfl) (ar1 (hp.V 1 rfl rfl)) ((body_targeted.calls x1_3_0 t1003 _  At1003).mono fun _ _ h => ⟨_, h.1, h.2.below, rfl⟩)) ?_
      exact .nil
    clear hS
    intro at1004 w1005 hS hI hp
    have hBw1005_w := hI.1
    have hBw1005_wL1 := hI.2
    have hv26 : sl _ 26 = .bool t1003 := hp 2 (by decide)
    have hBw1005_w1005 := Below.refl w1005.heap.size w1005
    have hS := hS.cons hv26
    clear hp hI hv26
    refine hK1002 _ _ ?_
    (try clear hK1002 K1002)
    refine wp_cond_true ((hS.get 0 rfl).trans (bT c2)) ?_
    refine reg_seq_tail 4 (N := 80) (bs := [(26, .bool t1003), (3, .pointer (some ⟨gL1_3, 0, none⟩)), (6, .slice AL1_6 y1_6.length CL1_6)]) (I := fun x => Below w.heap.size w x ∧ Below wL1.heap.size wL1 x ∧ Below w1005.heap.size w1005 x) (ps := [IsV (.slice AL1_6 y1_6.length CL1_6), VP gL1_3 9, IsV (.agg #[.int .u64 x1_3_9, .int .i64 x1_3_10]), IsR (Kd.int .u8) 5 w1005.heap.size t1006]) (by kernel_rfl) ?_ ?_ rfl hS ⟨hBw1005_w, hBw1005_wL1, hBw1005_w1005⟩ ?_ ?_
    · exact fun x y hI hb => ⟨below_step hI.1 hb, below_step hI.2.1 hb, below_step hI.2.2 hb⟩
    · exact .v (.v (.v (.cons (Stays.r _ _ _ _) (.nil))))
    · refine .ms 2 rfl rfl rfl ?_
      refine .on rfl (fun a w hS hI hp => does_val (x_fieldE (b := 0) rfl (hS.get 1 rfl) Try.underlying29 rfl rfl (by kernel_rfl)) rfl) ?_
      refine .on rfl (fun a w hS hI hp => does_loadmid (cs := [.int .u64 x1_3_9, .int .i64 x1_3_10]) rfl (hp.V 1 rfl rfl) (((hI.2.1).block gL1_3 (blk_lt hbxLgL1_3)).trans hbxLgL1_3) rfl Try.underlying25 rfl (by kernel_rfl) rfl) ?_
      refine .on rfl (fun a w hS hI hp => does_call (by kernel_rfl) (ar2 (hp.V 0 rfl rfl) (hp.V 2 rfl rfl)) ((ident_Put.calls _ _ y1_6 x1_3_9 x1_3_10 t1006 _ (Kd.C_below hcL1_6 hI.2.1) hr1_6 At1006).mono fun _ _ h => h.elim fun v0 h => ⟨v0, h.1, h.2.2, Kd.R_lower h.2.1 hI.2.2.size⟩)) ?_
      exact .nil
    clear hS
    intro at1007 w1008 hS hI hp
    have hBw1008_w := hI.1
    have hBw1008_wL1 := hI.2.1
    have hBw1008_w1005 := hI.2.2
    replace hS := ((hS.nil).cons (hS.get 2 rfl)).cons (hS.get 1 rfl)
    obtain ⟨A1009, C1009, hv30, hl1009, hc1009⟩ := Kd.R_reads (show Kd.R (Kd.int .u8) 5 w1008 w1005.heap.size (fun _ => True) (sl _ 30) t1006 from hp 3 (by decide))
    have ho1009 : Kd.R (Kd.int .u8) 5 w1008 w1005.heap.size (fun _ => True) (.slice A1009 t1006.length C1009) t1006 := hv30 ▸ (hp 3 (by decide))
    have hBw1008_w1008 := Below.refl w1008.heap.size w1008
    have hS := hS.cons hv30
    clear hp hI hv30
    show wpList _ _ _ [_] _ _
    refine list_step rfl (R := fun v w' => Below _ _ w' ∧ (IsV (.slice A1009 t1006.length C1009)) v w') (does_val (x_assign rfl (hS.get 0 rfl)) rfl) ?_
    rintro vw1010 w1010 ⟨hb, he⟩
    have hBw1010_w := below_step hBw1008_w hb
    have hBw1010_wL1 := below_step hBw1008_wL1 hb
    have hBw1010_w1005 := below_step hBw1008_w1005 hb
    have hBw1010_w1008 := below_step hBw1008_w1008 hb
    have hBw1010_w1010 := Below.refl w1010.heap.size w1010
    obtain rfl : vw1010 = .slice A1009 t1006.length C1009 := he
    replace hS := ((hS.nil).cons (hS.get 1 rfl)).cons (hS.get 0 rfl)
    refine hS.next (v := .slice A1009 t1006.length C1009) (d := 6) rfl (by decide) (by rfl) ?_
    clear hS
    intro at1011 hS
    refine wpList_nil ?_
    replace hS := ((hS.nil).cons (hS.get 0 rfl)).cons (hS.get 2 rfl)
    (try simp only [Exit.then, Exit.inBlock])
    exact J2 _ _ x1_3_0 x1_3_1 x1_3_2 x1_3_3 x1_3_4 x1_3_5 x1_3_6 x1_3_7 x1_3_8 x1_3_9 x1_3_10 x1_3_11 x1_3_12 x1_3_13 x1_3_14 x1_3_15 x1_3_16 x1_3_17 x1_3_18 x1_3_19 x1_3_20 x1_3_21 x1_3_22 gL1_3 t1006 A1009 C1009 H hS hBw1010_w hgeLgL1_3 ((hBw1010_wL1.block gL1_3 (blk_lt hbxLgL1_3)).trans hbxLgL1_3) hl1009 (Kd.C_below hc1009 hBw1010_w1008)
  obtain ⟨t15, At15, H⟩ := Option.bind_eq_some_iff.mp H
  by_cases c2 : t15 = true
  rotate_left
  · rw [if_neg c2] at H
    refine wp_seq_k (fun K14 hK14 => ?_)
    refine reg_seq (N := 80) (bs := [(6, .slice A0 l0.length l0.length), (3, .pointer (some ⟨g4, 0, none⟩))]) (I := fun x => Below w.heap.size w x ∧ Below w3.heap.size w3 x ∧ Below w12.heap.size w12 x) (ps := [VP g4 0, VI a1_0, VB t15]) (by kernel_rfl) ?_ ?_ rfl hS ⟨hBw12_w, hBw12_w3, hBw12_w12⟩ ?_ ?_
    · exact fun x y hI hb => ⟨below_step hI.1 hb, below_step hI.2.1 hb, below_step hI.2.2 hb⟩
    · exact .v (.v (.v (.nil)))
    · refine .on rfl (fun a w hS hI hp => does_val (x_fieldE (b := 0) rfl (hS.get 1 rfl) Try.underlying29 rfl rfl (by kernel_rfl)) rfl) ?_
      refine .on rfl (fun a w hS hI hp => does_val (x_load1 (d := .int .i64) rfl (hp.V 0 rfl rfl) (by kernel_rfl) rfl ((blk_cell (((hI.2.1).block g4 (blk_lt hbxg4)).trans hbxg4) 0).trans rfl)) rfl) ?_
      refine .on rfl (fun a w hS hI hp => does_call (by kernel_rfl) (ar1 (hp.V 1 rfl rfl)) ((body_stamped.calls a1_0 t15 _  At15).mono fun _ _ h => ⟨_, h.1, h.2.below, rfl⟩)) ?_
      exact .nil
    clear hS
    intro at16 w17 hS hI hp
    have hBw17_w := hI.1
    have hBw17_w3 := hI.2.1
    have hBw17_w12 := hI.2.2
    have hv19 : sl _ 19 = .bool t15 := hp 2 (by decide)
    have hBw17_w17 := Below.refl w17.heap.size w17
    have hS := hS.cons hv19
    clear hp hI hv19
    refine hK14 _ _ ?_
    (try clear hK14 K14)
    refine wp_cond_false ((hS.get 0 rfl).trans (bF (Bool.eq_false_iff.2 c2))) ?_
    refine wp_skip ?_
    replace hS := ((hS.nil).cons (hS.get 1 rfl)).cons (hS.get 2 rfl)
    (try simp only [Exit.then, Exit.inBlock])
    exact J1 _ _ a1_0 a1_1 a1_2 a1_3 a1_4 a1_5 a1_6 a1_7 a1_8 a1_9 a1_10 a1_11 a1_12 a1_13 a1_14 a1_15 a1_16 a1_17 a1_18 a1_19 a1_20 a1_21 a1_22 g4 l0 A0 l0.length H hS hBw17_w hgeg4 ((hBw17_w3.block g4 (blk_lt hbxg4)).trans hbxg4) (Nat.le_refl _) (Kd.C_below HR0 hBw17_w)
  rw [if_pos c2] at H
  obtain ⟨t18, At18, H⟩ := Option.bind_eq_some_iff.mp H
  refine wp_seq_k (fun K14 hK14 => ?_)
  refine reg_seq (N := 80) (bs := [(6, .slice A0 l0.length l0.length), (3, .pointer (some ⟨g4, 0, none⟩))]) (I := fun x => Below w.heap.size w x ∧ Below w3.heap.size w3 x ∧ Below w12.heap.size w12 x) (ps := [VP g4 0, VI a1_0, VB t15]) (by kernel_rfl) ?_ ?_ rfl hS ⟨hBw12_w, hBw12_w3, hBw12_w12⟩ ?_ ?_
  · exact fun x y hI hb => ⟨below_step hI.1 hb, below_step hI.2.1 hb, below_step hI.2.2 hb⟩
  · exact .v (.v (.v (.nil)))
  · refine .on rfl (fun a w hS hI hp => does_val (x_fieldE (b := 0) rfl (hS.get 1 rfl) Try.underlying29 rfl rfl (by kernel_rfl)) rfl) ?_
    refine .on rfl (fun a w hS hI hp => does_val (x_load1 (d := .int .i64) rfl (hp.V 0 rfl rfl) (by kernel_rfl) rfl ((blk_cell (((hI.2.1).block g4 (blk_lt hbxg4)).trans hbxg4) 0).trans rfl)) rfl) ?_
    refine .on rfl (fun a w hS hI hp => does_call (by kernel_rfl) (ar1 (hp.V 1 rfl rfl)) ((body_stamped.calls a1_0 t15 _  At15).mono fun _ _ h => ⟨_, h.1, h.2.below, rfl⟩)) ?_
    exact .nil
  clear hS
  intro at16 w17 hS hI hp
  have hBw17_w := hI.1
  have hBw17_w3 := hI.2.1
  have hBw17_w12 := hI.2.2
  have hv19 : sl _ 19 = .bool t15 := hp 2 (by decide)
  have hBw17_w17 := Below.refl w17.heap.size w17
  have hS := hS.cons hv19
  clear hp hI hv19
  refine hK14 _ _ ?_
  (try clear hK14 K14)
  refine wp_cond_true ((hS.get 0 rfl).trans (bT c2)) ?_
  refine reg_seq_tail 4 (N := 80) (bs := [(19, .bool t15), (6, .slice A0 l0.length l0.length), (3, .pointer (some ⟨g4, 0, none⟩))]) (I := fun x => Below w.heap.size w x ∧ Below w3.heap.size w3 x ∧ Below w17.heap.size w17 x) (ps := [IsV (.slice A0 l0.length l0.length), VP g4 8, VI a1_8, IsR (Kd.int .u8) 5 w17.heap.size t18]) (by kernel_rfl) ?_ ?_ rfl hS ⟨hBw17_w, hBw17_w3, hBw17_w17⟩ ?_ ?_
  · exact fun x y hI hb => ⟨below_step hI.1 hb, below_step hI.2.1 hb, below_step hI.2.2 hb⟩
  · exact .v (.v (.v (.cons (Stays.r _ _ _ _) (.nil))))
  · refine .ms 1 rfl rfl rfl ?_
    refine .on rfl (fun a w hS hI hp => does_val (x_fieldE (b := 0) rfl (hS.get 2 rfl) Try.underlying29 rfl rfl (by kernel_rfl)) rfl) ?_
    refine .on rfl (fun a w hS hI hp => does_val (x_load1 (d := .int .i64) rfl (hp.V 1 rfl rfl) (by kernel_rfl) rfl ((blk_cell (((hI.2.1).block g4 (blk_lt hbxg4)).trans hbxg4) 8).trans rfl)) rfl) ?_
    refine .on rfl (fun a w hS hI hp => does_call (by kernel_rfl) (ar2 (hp.V 0 rfl rfl) (hp.V 2 rfl rfl)) ((stamp_Put.calls _ _ l0 a1_8 t18 _ (Kd.C_below HR0 hI.1) (Nat.le_refl _) At18).mono fun _ _ h => h.elim fun v0 h => ⟨v0, h.1, h.2.2, Kd.R_lower h.2.1 hI.2.2.size⟩)) ?_
    exact .nil
  clear hS
  intro at19 w20 hS hI hp
  have hBw20_w := hI.1
  have hBw20_w3 := hI.2.1
  have hBw20_w17 := hI.2.2
  replace hS := ((hS.nil).cons (hS.get 2 rfl)).cons (hS.get 1 rfl)
  obtain ⟨A21, C21, hv23, hl21, hc21⟩ := Kd.R_reads (show Kd.R (Kd.int .u8) 5 w20 w17.heap.size (fun _ => True) (sl _ 23) t18 from hp 3 (by decide))
  have ho21 : Kd.R (Kd.int .u8) 5 w20 w17.heap.size (fun _ => True) (.slice A21 t18.length C21) t18 := hv23 ▸ (hp 3 (by decide))
  have hBw20_w20 := Below.refl w20.heap.size w20
  have hS := hS.cons hv23
  clear hp hI hv23
  show wpList _ _ _ [_] _ _
  refine list_step rfl (R := fun v w' => Below _ _ w' ∧ (IsV (.slice A21 t18.length C21)) v w') (does_val (x_assign rfl (hS.get 0 rfl)) rfl) ?_
  rintro vw22 w22 ⟨hb, he⟩
  have hBw22_w := below_step hBw20_w hb
  have hBw22_w3 := below_step hBw20_w3 hb
  have hBw22_w17 := below_step hBw20_w17 hb
  have hBw22_w20 := below_step hBw20_w20 hb
  have hBw22_w22 := Below.refl w22.heap.size w22
  obtain rfl : vw22 = .slice A21 t18.length C21 := he
  replace hS := ((hS.nil).cons (hS.get 2 rfl)).cons (hS.get 0 rfl)
  refine hS.next (v := .slice A21 t18.length C21) (d := 6) rfl (by decide) (by rfl) ?_
  clear hS
  intro at23 hS
  refine wpList_nil ?_
  replace hS := ((hS.nil).cons (hS.get 0 rfl)).cons (hS.get 2 rfl)
  (try simp only [Exit.then, Exit.inBlock])
  exact J1 _ _ a1_0 a1_1 a1_2 a1_3 a1_4 a1_5 a1_6 a1_7 a1_8 a1_9 a1_10 a1_11 a1_12 a1_13 a1_14 a1_15 a1_16 a1_17 a1_18 a1_19 a1_20 a1_21 a1_22 g4 t18 A21 C21 H hS hBw22_w hgeg4 ((hBw22_w3.block g4 (blk_lt hbxg4)).trans hbxg4) hl21 (Kd.C_below hc21 hBw22_w20)
end Go.Proofs.Ytpoocfapmgmfkaa.P
