/- Functions and loops of the given program as Lean functions, and that the code comes to what they say: written by this session's own program; Lean checks it. -/
import Derived.Test.YtiomlbkakiienaaZzPx0
import Derived.Test.YtiomlbkakiienaaZzPx1
import Derived.Test.YtiomlbkakiienaaZzPx2
namespace Go.Proofs.Ytiomlbkakiienaa.P
open Go.RowKit Go.Proofs.YtiomlbkakiienaaW.PrintWords Go.Proofs.YtiomlbkakiienaaW.PrintLast Go.Proofs.YtiomlbkakiienaaW.PrintMore
attribute [local go_sem] max2_int min2_int max_two min_two max_three min_three max_four min_four   -- for this text's walks alone
set_option linter.unusedVariables false
set_option linter.unusedSimpArgs false
def octets_PutId.f (l0 : List Int) (a1 : Int) : Option (List Int) := (octets_Put.f l0 (wrap64 (a1)) 8).bind fun t117 => (some t117)
set_option maxHeartbeats 8000000 in
set_option maxRecDepth 100000 in
theorem octets_PutId.calls (A0 : Option Addr) (c0 : Nat) (l0 : List Int) (a1 : Int) (r : List Int) (w : World) (hr0 : Kd.C (Kd.int .u8) w A0 l0.length l0) (hc0 : l0.length ≤ c0) (h : octets_PutId.f l0 a1 = some r) :
    Calls Try.prog 41 #[.slice A0 l0.length c0, .int .u64 a1] w fun e w' => ∃ v0_ : Value, e = .returned (v0_) ∧ Kd.R (Kd.int .u8) 5 w' w.heap.size (fun _ => True) v0_ r ∧ Below w.heap.size w w' := by
  have HR0 := Aside0.mk hr0
  have HC0 := Aside0.mk hc0
  clear hr0 hc0
  have HB := Aside0.mk (Below.refl w.heap.size w)
  have H : ((octets_Put.f l0 (wrap64 (a1)) 8).bind fun t117 => (some t117)) = some r := h
  clear h
  replace H := Option.bind_eq_some_iff.mp H
  obtain ⟨t117, A30, H⟩ := H
  replace H : (some t117) = some r := H
  have A3 := Aside0.mk A30
  clear A30
  obtain rfl := Option.some.inj H
  go_enter Try.func41, Try.ntmps41
  go_wp2_with (first | ((with_reducible refine gate_callee (f := 39) rfl ?_); refine goesL_ (some 8) rfl rfl Try.func39 (by kernel_rfl) rfl #[.slice A0 l0.length c0, .int .i64 (wrap64 (a1)), .int .i64 8] rfl (by (try simp only [List.map_toArray, List.map_cons, List.map_nil]); first | done | rfl | (simp only [List.length_drop, List.length_take]; rfl)) ?_; (with_reducible refine (octets_Put.calls _ _ l0 (wrap64 (a1)) 8 t117 _ ?side1 ?side2 A3.out).mono ?_); (case side1 => repeat (first | exact HR0.out | (with_reducible refine Kd.C_alloc ?_ _) | (with_reducible refine Kd.C_drewN ?_ _) | (with_reducible refine Kd.C_drew ?_))); (case side2 => exact HC0.out); rintro e w4 ⟨v118, rfl, ho0, hb⟩; refine ⟨_, rfl, ?_⟩; have n0_ := Aside0.mk (Kd.R_lower ho0 (below_size (by repeat (first | (with_reducible first | exact HB.out | apply below_alloc | apply pw_below_drewN | apply below_drew1) | exact HB.out)))); have n1_ := Aside0.mk (below_step (by repeat (first | (with_reducible first | exact HB.out | apply below_alloc | apply pw_below_drewN | apply below_drew1) | exact HB.out)) hb); clear HB; have HO119 := n0_; have HB := n1_; clear n0_ n1_; (try clear hb); (try clear hb2); (try clear hk); (try clear hi); (try clear ho0)))
  all_goals
    go_ret
    exact ⟨_, by first | rfl | (simp [errW_none, errW_some] <;> rfl) | (simp [*, errW_none, errW_some] <;> rfl), by (with_reducible repeat (first | apply Kd.R_alloc | apply Kd.R_drewN | apply Kd.R_drew)); exact HO119.out, by repeat (first | (with_reducible first | exact HB.out | apply below_alloc | apply pw_below_drewN | apply below_drew1) | exact HB.out)⟩
def ident_Put.f (l0 : List Int) (a1_0 : Int) (a1_1 : Int) : Option (List Int) := (octets_PutId.f l0 a1_0).bind fun t121 => ((octets_Put.f t121 a1_1 2).bind fun t124 => (some t124))
def ident_Put.T1 : Bool × List (List Nat × List Nat) := (true, [([], []), ([], []), ([1], [1]), ([0, 2], [0, 2]), ([], []), ([4], [4]), ([3, 5, 3], [3, 5]), ([6, 6, 0, 1, 2, 3, 4, 5, 6], [6])])
def ident_Put.B1 : List Nat := [0, 0, 2, 7, 0, 16, 63, 127]
theorem ident_Put.tab1 : rtab .any (opsOf Try.f38 1) = ident_Put.T1 := by kernel_rfl
theorem ident_Put.bits1 : waitsOk ident_Put.T1.2 ident_Put.B1 = true := by kernel_rfl
set_option maxHeartbeats 8000000 in
set_option maxRecDepth 100000 in
theorem ident_Put.calls (A0 : Option Addr) (c0 : Nat) (l0 : List Int) (a1_0 : Int) (a1_1 : Int) (r : List Int) (w : World) (hr0 : Kd.C (Kd.int .u8) w A0 l0.length l0) (hc0 : l0.length ≤ c0) (h : ident_Put.f l0 a1_0 a1_1 = some r) :
    Calls Try.prog 38 #[.slice A0 l0.length c0, .agg #[.int .u64 a1_0, .int .i64 a1_1]] w fun e w' => ∃ v0_ : Value, e = .returned (v0_) ∧ Kd.R (Kd.int .u8) 5 w' w.heap.size (fun _ => True) v0_ r ∧ Below w.heap.size w w' := by
  have hu24 := Try.underlying24
  have HR0 := Aside0.mk hr0
  have HC0 := Aside0.mk hc0
  clear hr0 hc0
  have HB := Aside0.mk (Below.refl w.heap.size w)
  have H : ((octets_PutId.f l0 a1_0).bind fun t121 => ((octets_Put.f t121 a1_1 2).bind fun t124 => (some t124))) = some r := h
  clear h
  replace H := Option.bind_eq_some_iff.mp H
  obtain ⟨t121, A30, H⟩ := H
  replace H : ((octets_Put.f t121 a1_1 2).bind fun t124 => (some t124)) = some r := H
  have A3 := Aside0.mk A30
  clear A30
  replace H := Option.bind_eq_some_iff.mp H
  obtain ⟨t124, A40, H⟩ := H
  replace H : (some t124) = some r := H
  have A4 := Aside0.mk A40
  clear A40
  obtain rfl := Option.some.inj H
  go_enter Try.func38, Try.ntmps38
  try go_wp2_with (first | ((with_reducible refine gate_dst (N := 3) rfl ?_); refine box_event ?hg (N := 3) ?hd (cs := #[.int .u64 a1_0, .int .i64 a1_1]) (t := 24) ?hr ?_; (case hd => rfl); (case hg => rfl); (case hr => first | (go_simp; done) | (go_simp; rfl)); intro gb120 hg w5 hbox hb; have n0_ := Aside0.mk (below_step (by repeat (first | (with_reducible first | exact HB.out | apply below_alloc | apply pw_below_drewN | apply below_drew1) | exact HB.out)) hb); have n1_ := Aside0.mk (hbox); have n2_ := Aside0.mk ((by rw [hg]; exact (below_size (by repeat (first | (with_reducible first | exact HB.out | apply below_alloc | apply pw_below_drewN | apply below_drew1) | exact HB.out))) : w.heap.size ≤ gb120)); have n3_ := Aside0.mk ((by rw [hg]; exact (below_size (by repeat (first | (with_reducible first | exact HB.out | apply below_alloc | apply pw_below_drewN | apply below_drew1) | exact HB.out))) : w.heap.size ≤ gb120)); clear HB; have HB := n0_; have BK120 := n1_; have GW120 := n2_; have GE120 := n3_; clear n0_ n1_ n2_ n3_; clear hb hbox hg))
  have n0_ := Aside0.mk (blk_drew BK120.out)
  have n1_ := Aside0.mk (below_drew1 HB.out)
  clear BK120
  clear HB
  have BK120 := n0_
  have HB := n1_
  clear n0_ n1_
  refine start_ (n := 8) (S := fun w' => w'.cell? ⟨gb120, 0, none⟩ = some (.int .u64 a1_0) ∧ w'.cell? ⟨gb120, 1, none⟩ = some (.int .i64 a1_1)) (ds := []) #[false, false, false, false, false, false, false, false] (by kernel_rfl) rfl rfl ⟨(blk_cell BK120.out 0).trans rfl, (blk_cell BK120.out 1).trans rfl⟩ (fun hHeld => ?_); refine with_tabW ident_Put.tab1 ident_Put.bits1 (fun HT_ HW_ => ?_)
  generalize w5.drew = w6 at BK120 HB hHeld ⊢
  refine pure_ (i := 0) (N := some 5) (v := ?_) (a' := ?_) #[true, false, false, false, false, false, false, false] rfl rfl (any_of HT_.out (by kernel_rfl)) (fun _ _ _ h => h) (Or.inl ⟨by rfl, ?_⟩) ?_ ?_
  rotate_left
  · intro w'
    go_simp
    with_reducible rfl
  rotate_left
  · simp only [Act.put, List.setIfInBounds_toArray, List.set_cons_zero, List.set_cons_succ, i64_w, i32_w]
    rfl
  refine pure_ (i := 1) (N := some 6) (v := ?_) (a' := ?_) #[true, true, false, false, false, false, false, false] rfl rfl (any_of HT_.out (by kernel_rfl)) (fun _ _ _ h => h) (Or.inl ⟨by rfl, ?_⟩) ?_ ?_
  rotate_left
  · intro w'
    go_simp
    with_reducible rfl
  rotate_left
  · simp only [Act.put, List.setIfInBounds_toArray, List.set_cons_zero, List.set_cons_succ, i64_w, i32_w]
    rfl
  refine pure_ (i := 4) (N := some 9) (v := ?_) (a' := ?_) #[true, true, false, false, true, false, false, false] rfl rfl (any_of HT_.out (by kernel_rfl)) (fun _ _ _ h => h) (Or.inl ⟨by rfl, ?_⟩) ?_ ?_
  rotate_left
  · intro w'
    go_simp
    with_reducible rfl
  rotate_left
  · simp only [Act.put, List.setIfInBounds_toArray, List.set_cons_zero, List.set_cons_succ, i64_w, i32_w]
    rfl
  refine take_ (i := 2) (N := some 7) (v := ?_) (a' := ?_) #[true, true, true, false, true, false, false, false] rfl rfl (take_ofW HT_.out HW_.out (by kernel_rfl)) (fun _ _ _ h => h) (Or.inl ⟨by rfl, ?_⟩) hHeld ?_ ?_
  rotate_left
  · rintro w' ⟨s0, s1⟩
    go_simp
    with_reducible rfl
  rotate_left
  · simp only [Act.put, List.setIfInBounds_toArray, List.set_cons_zero, List.set_cons_succ, i64_w, i32_w]
    rfl
  refine take_ (i := 5) (N := some 10) (v := ?_) (a' := ?_) #[true, true, true, false, true, true, false, false] rfl rfl (take_ofW HT_.out HW_.out (by kernel_rfl)) (fun _ _ _ h => h) (Or.inl ⟨by rfl, ?_⟩) hHeld ?_ ?_
  rotate_left
  · rintro w' ⟨s0, s1⟩
    go_simp
    with_reducible rfl
  rotate_left
  · simp only [Act.put, List.setIfInBounds_toArray, List.set_cons_zero, List.set_cons_succ, i64_w, i32_w]
    rfl
  refine one_ (i := 3) (N := some 8) #[true, true, true, true, true, true, false, false] rfl rfl (one_of HT_.out (by kernel_rfl)) (by decide) (fun K hK => ?_)
  refine goes_ Try.func41 (by kernel_rfl) rfl #[.slice A0 l0.length c0, .int .u64 a1_0] (by rfl) rfl rfl (by (try simp only [List.map_toArray, List.map_cons, List.map_nil]); first | done | rfl | (simp only [List.length_drop, List.length_take]; rfl)) ?_
  with_reducible refine (octets_PutId.calls _ _ l0 a1_0 t121 _ ?side1 ?side2 A3.out).mono ?_
  (case side1 => repeat (first | exact (Kd.C_below HR0.out HB.out) | (with_reducible refine Kd.C_alloc ?_ _) | (with_reducible refine Kd.C_drewN ?_ _) | (with_reducible refine Kd.C_drew ?_)))
  (case side2 => exact HC0.out)
  rintro e w7 ⟨v122, rfl, ho0, hb⟩
  refine ⟨_, rfl, ?_⟩
  have n0_ := Aside0.mk (Kd.R_lower ho0 (below_size (by repeat (first | (with_reducible first | exact HB.out | apply below_alloc | apply pw_below_drewN | apply below_drew1 | refine below_set ?_ GE120.out) | exact HB.out))))
  have n1_ := Aside0.mk (blk_below (g := gb120) (o := .cells #[.int .u64 a1_0, .int .i64 a1_1] 24 (0, 0)) (by (with_reducible repeat (first | refine blk_drewN ?_ _ | refine blk_drew ?_ | refine blk_alloc ?_ _)); exact BK120.out) hb)
  have n2_ := Aside0.mk (below_step (by repeat (first | (with_reducible first | exact HB.out | apply below_alloc | apply pw_below_drewN | apply below_drew1 | refine below_set ?_ GE120.out) | exact HB.out)) hb)
  clear BK120
  clear HB
  have HO123 := n0_
  have BK120 := n1_
  have HB := n2_
  clear n0_ n1_ n2_
  (try clear hb)
  (try clear hb2)
  (try clear hk)
  (try clear hi)
  (try clear ho0)
  obtain ⟨Ao8, co8, eo8⟩ := Kd.R_slice HO123.out
  (first | subst eo8 | (injection eo8 with f1_ f2_ f3_; have f4_ := f1_.symm; have f5_ := f3_.symm; clear f1_ f2_ f3_; subst f4_; subst f5_))
  refine hK.out _ _ ⟨(blk_cell BK120.out 0).trans rfl, (blk_cell BK120.out 1).trans rfl⟩ (fun hHeld => ?_)
  clear hK K
  refine norm_ (a' := ?_) ?_ ?_
  rotate_left
  · show Act.put _ (some 8) _ = _
    simp only [Act.put, List.setIfInBounds_toArray, List.set_cons_zero, List.set_cons_succ, i64_w, i32_w]
    rfl
  refine one_ (i := 6) (N := some 11) #[true, true, true, true, true, true, true, false] rfl rfl (one_of HT_.out (by kernel_rfl)) (by decide) (fun K hK => ?_)
  refine goes_ Try.func39 (by kernel_rfl) rfl #[.slice Ao8 t121.length co8, .int .i64 a1_1, .int .i64 2] (by rfl) rfl rfl (by (try simp only [List.map_toArray, List.map_cons, List.map_nil]); first | done | rfl | (simp only [List.length_drop, List.length_take]; rfl)) ?_
  with_reducible refine (octets_Put.calls _ _ t121 a1_1 2 t124 _ ?side1 ?side2 A4.out).mono ?_
  (case side1 => repeat (first | exact (Kd.R_reads' HO123.out).2.2 | (with_reducible refine Kd.C_alloc ?_ _) | (with_reducible refine Kd.C_drewN ?_ _) | (with_reducible refine Kd.C_drew ?_)))
  (case side2 => exact (Kd.R_reads' HO123.out).2.1)
  rintro e w9 ⟨v125, rfl, ho0, hb⟩
  refine ⟨_, rfl, ?_⟩
  have n0_ := Aside0.mk (Kd.R_elder' (by (with_reducible repeat (first | apply Kd.R_alloc | apply Kd.R_drewN | apply Kd.R_drew)); exact HO123.out) (Kd.R_base ho0) hb)
  have n1_ := Aside0.mk (Kd.R_lower (Kd.R_new' ho0 (Kd.R_lt (by (with_reducible repeat (first | apply Kd.R_alloc | apply Kd.R_drewN | apply Kd.R_drew)); exact HO123.out))) (below_size (by repeat (first | (with_reducible first | exact HB.out | apply below_alloc | apply pw_below_drewN | apply below_drew1 | refine below_set ?_ GE120.out) | exact HB.out))))
  have n2_ := Aside0.mk (blk_below (g := gb120) (o := .cells #[.int .u64 a1_0, .int .i64 a1_1] 24 (0, 0)) (by (with_reducible repeat (first | refine blk_drewN ?_ _ | refine blk_drew ?_ | refine blk_alloc ?_ _)); exact BK120.out) hb)
  have n3_ := Aside0.mk (below_step (by repeat (first | (with_reducible first | exact HB.out | apply below_alloc | apply pw_below_drewN | apply below_drew1 | refine below_set ?_ GE120.out) | exact HB.out)) hb)
  clear HO123
  clear BK120
  clear HB
  have HO123 := n0_
  have HO126 := n1_
  have BK120 := n2_
  have HB := n3_
  clear n0_ n1_ n2_ n3_
  (try clear hb)
  (try clear hb2)
  (try clear hk)
  (try clear hi)
  (try clear ho0)
  refine hK.out _ _ ⟨(blk_cell BK120.out 0).trans rfl, (blk_cell BK120.out 1).trans rfl⟩ (fun hHeld => ?_)
  clear hK K
  refine norm_ (a' := ?_) ?_ ?_
  rotate_left
  · show Act.put _ (some 11) _ = _
    simp only [Act.put, List.setIfInBounds_toArray, List.set_cons_zero, List.set_cons_succ, i64_w, i32_w]
    rfl
  refine pure_ (i := 7) (N := some 4) (v := ?_) (a' := ?_) #[true, true, true, true, true, true, true, true] rfl rfl (any_of HT_.out (by kernel_rfl)) (fun _ _ _ h => h) (Or.inl ⟨by rfl, ?_⟩) ?_ ?_
  rotate_left
  · intro w'
    go_simp
    with_reducible rfl
  rotate_left
  · simp only [Act.put, List.setIfInBounds_toArray, List.set_cons_zero, List.set_cons_succ, i64_w, i32_w]
    rfl
  refine done_ (done_of HT_.out (by kernel_rfl)) ?_
  try go_wp2
  all_goals
    go_ret
    exact ⟨_, by first | rfl | (simp [errW_none, errW_some] <;> rfl) | (simp [*, errW_none, errW_some] <;> rfl), by (with_reducible repeat (first | apply Kd.R_alloc | apply Kd.R_drewN | apply Kd.R_drew)); exact Kd.R_mono HO126.out (fun _ hk => trivial), by repeat (first | (with_reducible first | exact HB.out | apply below_alloc | apply pw_below_drewN | apply below_drew1 | refine below_set ?_ GE120.out) | exact HB.out)⟩
def quality_Put.f (l0 : List Int) (a1_0 : Int) (a1_1 : Int) (a1_2 : Int) : Option (List Int) := (octets_Put.f l0 a1_0 1).bind fun t128 => ((octets_Put.f t128 a1_1 1).bind fun t131 => ((octets_Put.f t131 a1_2 2).bind fun t134 => (some t134)))
def quality_Put.T1 : Bool × List (List Nat × List Nat) := (true, [([], []), ([], []), ([1], [1]), ([0, 2], [0, 2]), ([], []), ([4], [4]), ([3, 5, 3], [3, 5]), ([], []), ([7], [7]), ([6, 8, 6], [6, 8]), ([9, 9, 0, 1, 2, 3, 4, 5, 6, 7, 8, 9], [9])])
def quality_Put.B1 : List Nat := [0, 0, 2, 7, 0, 16, 63, 0, 128, 511, 1023]
theorem quality_Put.tab1 : rtab .any (opsOf Try.f40 1) = quality_Put.T1 := by kernel_rfl
theorem quality_Put.bits1 : waitsOk quality_Put.T1.2 quality_Put.B1 = true := by kernel_rfl
set_option maxHeartbeats 8000000 in
set_option maxRecDepth 100000 in
theorem quality_Put.calls (A0 : Option Addr) (c0 : Nat) (l0 : List Int) (a1_0 : Int) (a1_1 : Int) (a1_2 : Int) (r : List Int) (w : World) (hr0 : Kd.C (Kd.int .u8) w A0 l0.length l0) (hc0 : l0.length ≤ c0) (h : quality_Put.f l0 a1_0 a1_1 a1_2 = some r) :
    Calls Try.prog 40 #[.slice A0 l0.length c0, .agg #[.int .i64 a1_0, .int .i64 a1_1, .int .i64 a1_2]] w fun e w' => ∃ v0_ : Value, e = .returned (v0_) ∧ Kd.R (Kd.int .u8) 5 w' w.heap.size (fun _ => True) v0_ r ∧ Below w.heap.size w w' := by
  have hu26 := Try.underlying26
  have HR0 := Aside0.mk hr0
  have HC0 := Aside0.mk hc0
  clear hr0 hc0
  have HB := Aside0.mk (Below.refl w.heap.size w)
  have H : ((octets_Put.f l0 a1_0 1).bind fun t128 => ((octets_Put.f t128 a1_1 1).bind fun t131 => ((octets_Put.f t131 a1_2 2).bind fun t134 => (some t134)))) = some r := h
  clear h
  replace H := Option.bind_eq_some_iff.mp H
  obtain ⟨t128, A30, H⟩ := H
  replace H : ((octets_Put.f t128 a1_1 1).bind fun t131 => ((octets_Put.f t131 a1_2 2).bind fun t134 => (some t134))) = some r := H
  have A3 := Aside0.mk A30
  clear A30
  replace H := Option.bind_eq_some_iff.mp H
  obtain ⟨t131, A40, H⟩ := H
  replace H : ((octets_Put.f t131 a1_2 2).bind fun t134 => (some t134)) = some r := H
  have A4 := Aside0.mk A40
  clear A40
  replace H := Option.bind_eq_some_iff.mp H
  obtain ⟨t134, A50, H⟩ := H
  replace H : (some t134) = some r := H
  have A5 := Aside0.mk A50
  clear A50
  obtain rfl := Option.some.inj H
  go_enter Try.func40, Try.ntmps40
  try go_wp2_with (first | ((with_reducible refine gate_dst (N := 3) rfl ?_); refine box_event ?hg (N := 3) ?hd (cs := #[.int .i64 a1_0, .int .i64 a1_1, .int .i64 a1_2]) (t := 26) ?hr ?_; (case hd => rfl); (case hg => rfl); (case hr => first | (go_simp; done) | (go_simp; rfl)); intro gb127 hg w6 hbox hb; have n0_ := Aside0.mk (below_step (by repeat (first | (with_reducible first | exact HB.out | apply below_alloc | apply pw_below_drewN | apply below_drew1) | exact HB.out)) hb); have n1_ := Aside0.mk (hbox); have n2_ := Aside0.mk ((by rw [hg]; exact (below_size (by repeat (first | (with_reducible first | exact HB.out | apply below_alloc | apply pw_below_drewN | apply below_drew1) | exact HB.out))) : w.heap.size ≤ gb127)); have n3_ := Aside0.mk ((by rw [hg]; exact (below_size (by repeat (first | (with_reducible first | exact HB.out | apply below_alloc | apply pw_below_drewN | apply below_drew1) | exact HB.out))) : w.heap.size ≤ gb127)); clear HB; have HB := n0_; have BK127 := n1_; have GW127 := n2_; have GE127 := n3_; clear n0_ n1_ n2_ n3_; clear hb hbox hg))
  have n0_ := Aside0.mk (blk_drew BK127.out)
  have n1_ := Aside0.mk (below_drew1 HB.out)
  clear BK127
  clear HB
  have BK127 := n0_
  have HB := n1_
  clear n0_ n1_
  refine start_ (n := 11) (S := fun w' => w'.cell? ⟨gb127, 0, none⟩ = some (.int .i64 a1_0) ∧ w'.cell? ⟨gb127, 1, none⟩ = some (.int .i64 a1_1) ∧ w'.cell? ⟨gb127, 2, none⟩ = some (.int .i64 a1_2)) (ds := []) #[false, false, false, false, false, false, false, false, false, false, false] (by kernel_rfl) rfl rfl ⟨(blk_cell BK127.out 0).trans rfl, (blk_cell BK127.out 1).trans rfl, (blk_cell BK127.out 2).trans rfl⟩ (fun hHeld => ?_); refine with_tabW quality_Put.tab1 quality_Put.bits1 (fun HT_ HW_ => ?_)
  generalize w6.drew = w7 at BK127 HB hHeld ⊢
  refine pure_ (i := 0) (N := some 5) (v := ?_) (a' := ?_) #[true, false, false, false, false, false, false, false, false, false, false] rfl rfl (any_of HT_.out (by kernel_rfl)) (fun _ _ _ h => h) (Or.inl ⟨by rfl, ?_⟩) ?_ ?_
  rotate_left
  · intro w'
    go_simp
    with_reducible rfl
  rotate_left
  · simp only [Act.put, List.setIfInBounds_toArray, List.set_cons_zero, List.set_cons_succ, i64_w, i32_w]
    rfl
  refine pure_ (i := 1) (N := some 6) (v := ?_) (a' := ?_) #[true, true, false, false, false, false, false, false, false, false, false] rfl rfl (any_of HT_.out (by kernel_rfl)) (fun _ _ _ h => h) (Or.inl ⟨by rfl, ?_⟩) ?_ ?_
  rotate_left
  · intro w'
    go_simp
    with_reducible rfl
  rotate_left
  · simp only [Act.put, List.setIfInBounds_toArray, List.set_cons_zero, List.set_cons_succ, i64_w, i32_w]
    rfl
  refine pure_ (i := 4) (N := some 9) (v := ?_) (a' := ?_) #[true, true, false, false, true, false, false, false, false, false, false] rfl rfl (any_of HT_.out (by kernel_rfl)) (fun _ _ _ h => h) (Or.inl ⟨by rfl, ?_⟩) ?_ ?_
  rotate_left
  · intro w'
    go_simp
    with_reducible rfl
  rotate_left
  · simp only [Act.put, List.setIfInBounds_toArray, List.set_cons_zero, List.set_cons_succ, i64_w, i32_w]
    rfl
  refine pure_ (i := 7) (N := some 12) (v := ?_) (a' := ?_) #[true, true, false, false, true, false, false, true, false, false, false] rfl rfl (any_of HT_.out (by kernel_rfl)) (fun _ _ _ h => h) (Or.inl ⟨by rfl, ?_⟩) ?_ ?_
  rotate_left
  · intro w'
    go_simp
    with_reducible rfl
  rotate_left
  · simp only [Act.put, List.setIfInBounds_toArray, List.set_cons_zero, List.set_cons_succ, i64_w, i32_w]
    rfl
  refine take_ (i := 2) (N := some 7) (v := ?_) (a' := ?_) #[true, true, true, false, true, false, false, true, false, false, false] rfl rfl (take_ofW HT_.out HW_.out (by kernel_rfl)) (fun _ _ _ h => h) (Or.inl ⟨by rfl, ?_⟩) hHeld ?_ ?_
  rotate_left
  · rintro w' ⟨s0, s1, s2⟩
    go_simp
    with_reducible rfl
  rotate_left
  · simp only [Act.put, List.setIfInBounds_toArray, List.set_cons_zero, List.set_cons_succ, i64_w, i32_w]
    rfl
  refine take_ (i := 5) (N := some 10) (v := ?_) (a' := ?_) #[true, true, true, false, true, true, false, true, false, false, false] rfl rfl (take_ofW HT_.out HW_.out (by kernel_rfl)) (fun _ _ _ h => h) (Or.inl ⟨by rfl, ?_⟩) hHeld ?_ ?_
  rotate_left
  · rintro w' ⟨s0, s1, s2⟩
    go_simp
    with_reducible rfl
  rotate_left
  · simp only [Act.put, List.setIfInBounds_toArray, List.set_cons_zero, List.set_cons_succ, i64_w, i32_w]
    rfl
  refine take_ (i := 8) (N := some 13) (v := ?_) (a' := ?_) #[true, true, true, false, true, true, false, true, true, false, false] rfl rfl (take_ofW HT_.out HW_.out (by kernel_rfl)) (fun _ _ _ h => h) (Or.inl ⟨by rfl, ?_⟩) hHeld ?_ ?_
  rotate_left
  · rintro w' ⟨s0, s1, s2⟩
    go_simp
    with_reducible rfl
  rotate_left
  · simp only [Act.put, List.setIfInBounds_toArray, List.set_cons_zero, List.set_cons_succ, i64_w, i32_w]
    rfl
  refine one_ (i := 3) (N := some 8) #[true, true, true, true, true, true, false, true, true, false, false] rfl rfl (one_of HT_.out (by kernel_rfl)) (by decide) (fun K hK => ?_)
  refine goes_ Try.func39 (by kernel_rfl) rfl #[.slice A0 l0.length c0, .int .i64 a1_0, .int .i64 1] (by rfl) rfl rfl (by (try simp only [List.map_toArray, List.map_cons, List.map_nil]); first | done | rfl | (simp only [List.length_drop, List.length_take]; rfl)) ?_
  with_reducible refine (octets_Put.calls _ _ l0 a1_0 1 t128 _ ?side1 ?side2 A3.out).mono ?_
  (case side1 => repeat (first | exact (Kd.C_below HR0.out HB.out) | (with_reducible refine Kd.C_alloc ?_ _) | (with_reducible refine Kd.C_drewN ?_ _) | (with_reducible refine Kd.C_drew ?_)))
  (case side2 => exact HC0.out)
  rintro e w8 ⟨v129, rfl, ho0, hb⟩
  refine ⟨_, rfl, ?_⟩
  have n0_ := Aside0.mk (Kd.R_lower ho0 (below_size (by repeat (first | (with_reducible first | exact HB.out | apply below_alloc | apply pw_below_drewN | apply below_drew1 | refine below_set ?_ GE127.out) | exact HB.out))))
  have n1_ := Aside0.mk (blk_below (g := gb127) (o := .cells #[.int .i64 a1_0, .int .i64 a1_1, .int .i64 a1_2] 26 (0, 0)) (by (with_reducible repeat (first | refine blk_drewN ?_ _ | refine blk_drew ?_ | refine blk_alloc ?_ _)); exact BK127.out) hb)
  have n2_ := Aside0.mk (below_step (by repeat (first | (with_reducible first | exact HB.out | apply below_alloc | apply pw_below_drewN | apply below_drew1 | refine below_set ?_ GE127.out) | exact HB.out)) hb)
  clear BK127
  clear HB
  have HO130 := n0_
  have BK127 := n1_
  have HB := n2_
  clear n0_ n1_ n2_
  (try clear hb)
  (try clear hb2)
  (try clear hk)
  (try clear hi)
  (try clear ho0)
  obtain ⟨Ao9, co9, eo9⟩ := Kd.R_slice HO130.out
  (first | subst eo9 | (injection eo9 with f1_ f2_ f3_; have f4_ := f1_.symm; have f5_ := f3_.symm; clear f1_ f2_ f3_; subst f4_; subst f5_))
  refine hK.out _ _ ⟨(blk_cell BK127.out 0).trans rfl, (blk_cell BK127.out 1).trans rfl, (blk_cell BK127.out 2).trans rfl⟩ (fun hHeld => ?_)
  clear hK K
  refine norm_ (a' := ?_) ?_ ?_
  rotate_left
  · show Act.put _ (some 8) _ = _
    simp only [Act.put, List.setIfInBounds_toArray, List.set_cons_zero, List.set_cons_succ, i64_w, i32_w]
    rfl
  refine one_ (i := 6) (N := some 11) #[true, true, true, true, true, true, true, true, true, false, false] rfl rfl (one_of HT_.out (by kernel_rfl)) (by decide) (fun K hK => ?_)
  refine goes_ Try.func39 (by kernel_rfl) rfl #[.slice Ao9 t128.length co9, .int .i64 a1_1, .int .i64 1] (by rfl) rfl rfl (by (try simp only [List.map_toArray, List.map_cons, List.map_nil]); first | done | rfl | (simp only [List.length_drop, List.length_take]; rfl)) ?_
  with_reducible refine (octets_Put.calls _ _ t128 a1_1 1 t131 _ ?side1 ?side2 A4.out).mono ?_
  (case side1 => repeat (first | exact (Kd.R_reads' HO130.out).2.2 | (with_reducible refine Kd.C_alloc ?_ _) | (with_reducible refine Kd.C_drewN ?_ _) | (with_reducible refine Kd.C_drew ?_)))
  (case side2 => exact (Kd.R_reads' HO130.out).2.1)
  rintro e w10 ⟨v132, rfl, ho0, hb⟩
  refine ⟨_, rfl, ?_⟩
  have n0_ := Aside0.mk (Kd.R_elder' (by (with_reducible repeat (first | apply Kd.R_alloc | apply Kd.R_drewN | apply Kd.R_drew)); exact HO130.out) (Kd.R_base ho0) hb)
  have n1_ := Aside0.mk (Kd.R_lower (Kd.R_new' ho0 (Kd.R_lt (by (with_reducible repeat (first | apply Kd.R_alloc | apply Kd.R_drewN | apply Kd.R_drew)); exact HO130.out))) (below_size (by repeat (first | (with_reducible first | exact HB.out | apply below_alloc | apply pw_below_drewN | apply below_drew1 | refine below_set ?_ GE127.out) | exact HB.out))))
  have n2_ := Aside0.mk (blk_below (g := gb127) (o := .cells #[.int .i64 a1_0, .int .i64 a1_1, .int .i64 a1_2] 26 (0, 0)) (by (with_reducible repeat (first | refine blk_drewN ?_ _ | refine blk_drew ?_ | refine blk_alloc ?_ _)); exact BK127.out) hb)
  have n3_ := Aside0.mk (below_step (by repeat (first | (with_reducible first | exact HB.out | apply below_alloc | apply pw_below_drewN | apply below_drew1 | refine below_set ?_ GE127.out) | exact HB.out)) hb)
  clear HO130
  clear BK127
  clear HB
  have HO130 := n0_
  have HO133 := n1_
  have BK127 := n2_
  have HB := n3_
  clear n0_ n1_ n2_ n3_
  (try clear hb)
  (try clear hb2)
  (try clear hk)
  (try clear hi)
  (try clear ho0)
  obtain ⟨Ao11, co11, eo11⟩ := Kd.R_slice HO133.out
  (first | subst eo11 | (injection eo11 with f1_ f2_ f3_; have f4_ := f1_.symm; have f5_ := f3_.symm; clear f1_ f2_ f3_; subst f4_; subst f5_))
  refine hK.out _ _ ⟨(blk_cell BK127.out 0).trans rfl, (blk_cell BK127.out 1).trans rfl, (blk_cell BK127.out 2).trans rfl⟩ (fun hHeld => ?_)
  clear hK K
  refine norm_ (a' := ?_) ?_ ?_
  rotate_left
  · show Act.put _ (some 11) _ = _
    simp only [Act.put, List.setIfInBounds_toArray, List.set_cons_zero, List.set_cons_succ, i64_w, i32_w]
    rfl
  refine one_ (i := 9) (N := some 14) #[true, true, true, true, true, true, true, true, true, true, false] rfl rfl (one_of HT_.out (by kernel_rfl)) (by decide) (fun K hK => ?_)
  refine goes_ Try.func39 (by kernel_rfl) rfl #[.slice Ao11 t131.length co11, .int .i64 a1_2, .int .i64 2] (by rfl) rfl rfl (by (try simp only [List.map_toArray, List.map_cons, List.map_nil]); first | done | rfl | (simp only [List.length_drop, List.length_take]; rfl)) ?_
  with_reducible refine (octets_Put.calls _ _ t131 a1_2 2 t134 _ ?side1 ?side2 A5.out).mono ?_
  (case side1 => repeat (first | exact (Kd.R_reads' HO133.out).2.2 | (with_reducible refine Kd.C_alloc ?_ _) | (with_reducible refine Kd.C_drewN ?_ _) | (with_reducible refine Kd.C_drew ?_)))
  (case side2 => exact (Kd.R_reads' HO133.out).2.1)
  rintro e w12 ⟨v135, rfl, ho0, hb⟩
  refine ⟨_, rfl, ?_⟩
  have n0_ := Aside0.mk (Kd.R_elder' (by (with_reducible repeat (first | apply Kd.R_alloc | apply Kd.R_drewN | apply Kd.R_drew)); exact HO130.out) (Kd.R_base ho0) hb)
  have n1_ := Aside0.mk (Kd.R_elder' (by (with_reducible repeat (first | apply Kd.R_alloc | apply Kd.R_drewN | apply Kd.R_drew)); exact HO133.out) (Kd.R_base ho0) hb)
  have n2_ := Aside0.mk (Kd.R_lower (Kd.R_new' (Kd.R_new' ho0 (Kd.R_lt (by (with_reducible repeat (first | apply Kd.R_alloc | apply Kd.R_drewN | apply Kd.R_drew)); exact HO130.out))) (Kd.R_lt (by (with_reducible repeat (first | apply Kd.R_alloc | apply Kd.R_drewN | apply Kd.R_drew)); exact HO133.out))) (below_size (by repeat (first | (with_reducible first | exact HB.out | apply below_alloc | apply pw_below_drewN | apply below_drew1 | refine below_set ?_ GE127.out) | exact HB.out))))
  have n3_ := Aside0.mk (blk_below (g := gb127) (o := .cells #[.int .i64 a1_0, .int .i64 a1_1, .int .i64 a1_2] 26 (0, 0)) (by (with_reducible repeat (first | refine blk_drewN ?_ _ | refine blk_drew ?_ | refine blk_alloc ?_ _)); exact BK127.out) hb)
  have n4_ := Aside0.mk (below_step (by repeat (first | (with_reducible first | exact HB.out | apply below_alloc | apply pw_below_drewN | apply below_drew1 | refine below_set ?_ GE127.out) | exact HB.out)) hb)
  clear HO130
  clear HO133
  clear BK127
  clear HB
  have HO130 := n0_
  have HO133 := n1_
  have HO136 := n2_
  have BK127 := n3_
  have HB := n4_
  clear n0_ n1_ n2_ n3_ n4_
  (try clear hb)
  (try clear hb2)
  (try clear hk)
  (try clear hi)
  (try clear ho0)
  refine hK.out _ _ ⟨(blk_cell BK127.out 0).trans rfl, (blk_cell BK127.out 1).trans rfl, (blk_cell BK127.out 2).trans rfl⟩ (fun hHeld => ?_)
  clear hK K
  refine norm_ (a' := ?_) ?_ ?_
  rotate_left
  · show Act.put _ (some 14) _ = _
    simp only [Act.put, List.setIfInBounds_toArray, List.set_cons_zero, List.set_cons_succ, i64_w, i32_w]
    rfl
  refine pure_ (i := 10) (N := some 4) (v := ?_) (a' := ?_) #[true, true, true, true, true, true, true, true, true, true, true] rfl rfl (any_of HT_.out (by kernel_rfl)) (fun _ _ _ h => h) (Or.inl ⟨by rfl, ?_⟩) ?_ ?_
  rotate_left
  · intro w'
    go_simp
    with_reducible rfl
  rotate_left
  · simp only [Act.put, List.setIfInBounds_toArray, List.set_cons_zero, List.set_cons_succ, i64_w, i32_w]
    rfl
  refine done_ (done_of HT_.out (by kernel_rfl)) ?_
  try go_wp2
  all_goals
    go_ret
    exact ⟨_, by first | rfl | (simp [errW_none, errW_some] <;> rfl) | (simp [*, errW_none, errW_some] <;> rfl), by (with_reducible repeat (first | apply Kd.R_alloc | apply Kd.R_drewN | apply Kd.R_drew)); exact Kd.R_mono HO136.out (fun _ hk => trivial), by repeat (first | (with_reducible first | exact HB.out | apply below_alloc | apply pw_below_drewN | apply below_drew1 | refine below_set ?_ GE127.out) | exact HB.out)⟩
def body_Put.j3 (k : Nat) (y3_6 : List Int) : Option (List Int × Bool) := some (y3_6, true)
def body_Put.j2 (k : Nat) (x2_3_0 x2_3_1 x2_3_2 x2_3_3 x2_3_4 x2_3_5 x2_3_6 x2_3_7 x2_3_8 x2_3_9 x2_3_10 x2_3_11 x2_3_12 x2_3_13 x2_3_14 x2_3_15 x2_3_16 x2_3_17 x2_3_18 x2_3_19 x2_3_20 x2_3_21 x2_3_22 : Int) (y2_6 : List Int) : Option (List Int × Bool) := if x2_3_0 = 2 then ((ident_Put.f y2_6 0 0).bind fun t2008 => (body_Put.j3 k t2008)) else (if x2_3_0 = 11 then ((octets_Put.f y2_6 x2_3_11 2).bind fun t2012 => ((octets_Put.f t2012 0 1).bind fun t2013 => ((octets_Put.f t2013 x2_3_12 1).bind fun t2014 => ((quality_Put.f t2014 x2_3_13 x2_3_14 x2_3_15).bind fun t2021 => ((octets_Put.f t2021 x2_3_16 1).bind fun t2022 => ((octets_PutId.f t2022 x2_3_17).bind fun t2028 => ((octets_Put.f t2028 x2_3_18 2).bind fun t2029 => ((octets_Put.f t2029 x2_3_19 1).bind fun t2030 => (body_Put.j3 k t2030))))))))) else (if x2_3_0 = 13 then ((octets_Put.f y2_6 x2_3_20 1).bind fun t2015 => ((octets_Put.f t2015 x2_3_21 1).bind fun t2016 => ((octets_Put.f t2016 x2_3_22 1).bind fun t2022 => ((octets_Put.f t2022 0 1).bind fun t2023 => (body_Put.j3 k t2023))))) else (body_Put.j3 k y2_6)))
def body_Put.j1 (k : Nat) (x1_3_0 x1_3_1 x1_3_2 x1_3_3 x1_3_4 x1_3_5 x1_3_6 x1_3_7 x1_3_8 x1_3_9 x1_3_10 x1_3_11 x1_3_12 x1_3_13 x1_3_14 x1_3_15 x1_3_16 x1_3_17 x1_3_18 x1_3_19 x1_3_20 x1_3_21 x1_3_22 : Int) (y1_6 : List Int) : Option (List Int × Bool) := (body_targeted.f x1_3_0).bind fun t1003 => (if t1003 = true then ((ident_Put.f y1_6 x1_3_9 x1_3_10).bind fun t1006 => (body_Put.j2 k x1_3_0 x1_3_1 x1_3_2 x1_3_3 x1_3_4 x1_3_5 x1_3_6 x1_3_7 x1_3_8 x1_3_9 x1_3_10 x1_3_11 x1_3_12 x1_3_13 x1_3_14 x1_3_15 x1_3_16 x1_3_17 x1_3_18 x1_3_19 x1_3_20 x1_3_21 x1_3_22 t1006)) else (body_Put.j2 k x1_3_0 x1_3_1 x1_3_2 x1_3_3 x1_3_4 x1_3_5 x1_3_6 x1_3_7 x1_3_8 x1_3_9 x1_3_10 x1_3_11 x1_3_12 x1_3_13 x1_3_14 x1_3_15 x1_3_16 x1_3_17 x1_3_18 x1_3_19 x1_3_20 x1_3_21 x1_3_22 y1_6))
def body_Put.f (k : Nat) (l0 : List Int) (a1_0 a1_1 a1_2 a1_3 a1_4 a1_5 a1_6 a1_7 a1_8 a1_9 a1_10 a1_11 a1_12 a1_13 a1_14 a1_15 a1_16 a1_17 a1_18 a1_19 a1_20 a1_21 a1_22 : Int) : Option (List Int × Bool) := (body_Check.f k a1_0 a1_1 a1_2 a1_3 a1_4 a1_5 a1_6 a1_7 a1_8 a1_9 a1_10 a1_11 a1_12 a1_13 a1_14 a1_15 a1_16 a1_17 a1_18 a1_19 a1_20 a1_21 a1_22).bind fun t7 => (if t7 = true then ((body_stamped.f a1_0).bind fun t15 => (if t15 = true then ((stamp_Put.f l0 a1_8).bind fun t18 => (body_Put.j1 k a1_0 a1_1 a1_2 a1_3 a1_4 a1_5 a1_6 a1_7 a1_8 a1_9 a1_10 a1_11 a1_12 a1_13 a1_14 a1_15 a1_16 a1_17 a1_18 a1_19 a1_20 a1_21 a1_22 t18)) else (body_Put.j1 k a1_0 a1_1 a1_2 a1_3 a1_4 a1_5 a1_6 a1_7 a1_8 a1_9 a1_10 a1_11 a1_12 a1_13 a1_14 a1_15 a1_16 a1_17 a1_18 a1_19 a1_20 a1_21 a1_22 l0))) else (some (l0, false)))
abbrev body_Put.v0 (x0 x1 x2 x3 x4 x5 x6 x7 x8 x9 x10 x11 x12 x13 x14 x15 x16 x17 x18 x19 x20 x21 x22 : Int) : Value := .agg #[.int .i64 x0, .int .i64 x1, .int .i64 x2, .int .i64 x3, .int .u64 x4, .int .i64 x5, .int .i64 x6, .int .i64 x7, .int .i64 x8, .int .u64 x9, .int .i64 x10, .int .i64 x11, .int .i64 x12, .int .i64 x13, .int .i64 x14, .int .i64 x15, .int .i64 x16, .int .u64 x17, .int .i64 x18, .int .i64 x19, .int .i64 x20, .int .i64 x21, .int .i64 x22]
abbrev body_Put.c1 (x0 x1 x2 x3 x4 x5 x6 x7 x8 x9 x10 x11 x12 x13 x14 x15 x16 x17 x18 x19 x20 x21 x22 : Int) : Array Value := #[.int .i64 x0, .int .i64 x1, .int .i64 x2, .int .i64 x3, .int .u64 x4, .int .i64 x5, .int .i64 x6, .int .i64 x7, .int .i64 x8, .int .u64 x9, .int .i64 x10, .int .i64 x11, .int .i64 x12, .int .i64 x13, .int .i64 x14, .int .i64 x15, .int .i64 x16, .int .u64 x17, .int .i64 x18, .int .i64 x19, .int .i64 x20, .int .i64 x21, .int .i64 x22]
open Go.Proofs.Ytiomlbkakiienaa.E in
set_option maxHeartbeats 60000000 in
set_option maxRecDepth 100000 in
theorem body_Put.calls (k : Nat) (A0 : Option Addr) (bB : Nat) (l0 : List Int) (ar bp bq br bs bt bu bv aS bw ay az aA aB aC aD aE aF aG aH aI aJ aK : Int) (r1 : List Int) (r2 : Bool) (w : World) (HR0 : Kd.C (Kd.int .u8) w A0 l0.length l0) (HC0 : l0.length ≤ bB) (h : body_Put.f k l0 ar bp bq br bs bt bu bv aS bw ay az aA aB aC aD aE aF aG aH aI aJ aK = some (r1, r2)) :
    Calls Try.prog 20 #[.slice A0 l0.length bB, .agg #[.int .i64 ar, .int .i64 bp, .int .i64 bq, .int .i64 br, .int .u64 bs, .int .i64 bt, .int .i64 bu, .int .i64 bv, .int .i64 aS, .int .u64 bw, .int .i64 ay, .int .i64 az, .int .i64 aA, .int .i64 aB, .int .i64 aC, .int .i64 aD, .int .i64 aE, .int .u64 aF, .int .i64 aG, .int .i64 aH, .int .i64 aI, .int .i64 aJ, .int .i64 aK]] w fun e w' => ∃ v0_ : Value, e = .returned (.tuple #[v0_, .bool r2]) ∧ IsC (Kd.int .u8) r1 v0_ w' ∧ Below w.heap.size w w' := by
 have H := h
 clear h
 unfold body_Put.f at H
 obtain ⟨t7, eW, H⟩ := Option.bind_eq_some_iff.mp H
 by_cases c1 : t7 = true
 rotate_left
 ·rw [if_neg c1] at H
  simp only [Option.some.injEq, Prod.mk.injEq] at H
  obtain ⟨rfl, rfl⟩ := H
  refine calls_of_wp (fn := Try.f20) (by kernel_rfl) rfl ?_
  have hS := St.enter #[.slice A0 l0.length bB, (body_Put.v0 ar bp bq br bs bt bu bv aS bw ay az aA aB aC aD aE aF aG aH aI aJ aK)] 80 (by simp) [(0, .slice A0 l0.length bB), (1, (body_Put.v0 ar bp bq br bs bt bu bv aS bw ay az aA aB aC aD aE aF aG aH aI aJ aK))] (by simp)
  have ee := Below.refl w.heap.size w
  refine wp_seq_k (fun K1 ek => ?_)
  refine reg_seq (I := I1_ w) (ps := [IsB (body_Put.c1 ar bp bq br bs bt bu bv aS bw ay az aA aB aC aD aE aF aG aH aI aJ aK) 28 w.heap.size, IsV (.slice none 0 0), VB false]) (by kernel_rfl) ?_ ?_ rfl hS ee ?_ ?_
  ·exact bs1
  ·exact .cons (Stays.b _ _ _) (.v (.v (.nil)))
  ·refine .on rfl (fun a w hS hI hp => does_var (x_box rfl (congrArg Value.cells (hS.get 1 rfl))) (hI).size) ?_
   iterate 2 refine .on rfl (fun a w hS hI hp => does_val (x_assign rfl (rfl)) rfl) ?_
   exact .nil
  clear hS
  intro fd w3 hS eG hp
  replace hS := (hS.nil).cons (hS.get 0 rfl)
  obtain ⟨g4, dt, c6, ag⟩ := (show IsB _ 28 _ (sl _ 3) _ from hp 0 (by decide))
  have hS := hS.cons dt
  clear hp dt
  refine ek _ _ ?_
  refine wp_seq_k (fun K5 eY => ?_)
  refine wp_seq_k (fun K6 eq => ?_)
  refine reg_seq (I := I2_ w w3) (ps := [IsV ((body_Put.v0 ar bp bq br bs bt bu bv aS bw ay az aA aB aC aD aE aF aG aH aI aJ aK)), VB t7, VB (!t7)]) (by kernel_rfl) ?_ ?_ rfl hS ⟨eG, (bR w3)⟩ ?_ ?_
  ·exact bs2
  ·exact .v (.v (.v (.nil)))
  ·refine .on rfl (fun a w hS hI hp => does_loadrow rfl (hS.get 0 rfl) (((hI.2).block g4 (blk_lt ag)).trans ag) Try.underlying28 rfl (by kernel_rfl) rfl) ?_
   refine .on rfl (fun a w hS hI hp => does_call (by kernel_rfl) (ar1 (hp.V 0 rfl rfl)) ((body_Check.calls (w := _) (h := eW)).mono fun _ _ h => ⟨_, h.1, h.2, rfl⟩)) ?_
   refine .on rfl (fun a w hS hI hp => does_val (x_not rfl (hp.V 1 rfl rfl)) rfl) ?_
   exact .nil
  clear hS
  intro fr w9 hS dy hp
  have dw : sl _ 9 = .bool (!t7) := hp 2 (by decide)
  have hS := hS.cons dw
  clear hp dw
  refine eq _ _ ?_
  refine wp_cond_true ((hS.get 0 rfl).trans (bT (congrArg (!·) (Bool.eq_false_iff.2 c1)))) ?_
  refine wp_seq_k (fun e8 dB => ?_)
  refine reg_seq (I := I3_ w w3 w9) (ps := [IsV (.slice A0 l0.length bB), IsV (.slice A0 l0.length bB), VB false]) (by kernel_rfl) ?_ ?_ rfl hS ⟨dy.1, dy.2, (bR w9)⟩ ?_ ?_
  ·exact bs3
  ·exact .v (.v (.v (.nil)))
  ·refine .ms 2 rfl rfl rfl ?_
   refine .asg 0 rfl rfl rfl ?_
   refine .on rfl (fun a w hS hI hp => does_val (x_assign rfl (rfl)) rfl) ?_
   exact .nil
  clear hS
  intro e2 dz hS bY hp
  replace hS := hS.nil
  have du : sl _ 4 = .slice A0 l0.length bB := hp 1 (by decide)
  have dv : sl _ 5 = .bool false := hp 2 (by decide)
  have hS := hS.cons du
  have hS := hS.cons dv
  clear hp du dv
  refine dB _ _ ?_
  refine wp_ret ?_
  (try simp only [Exit.then, Exit.inBlock, Exit.jump, Exit.noGoto])
  exact bodyPost_ret (v := .tuple #[.slice A0 l0.length bB, .bool false]) (results_list (rs := [.tmp 4, .tmp 5]) rfl (by simp) (Vals.at (hS.get 1 rfl) (Vals.at (hS.get 0 rfl) .nil))) hS.nodef ⟨.slice A0 l0.length bB, rfl, ⟨_, _, rfl, HC0, Kd.C_below HR0 bY.1⟩, bY.1⟩
 rw [if_pos c1] at H
 refine calls_of_wp (fn := Try.f20) (by kernel_rfl) rfl ?_
 have hS := St.enter #[.slice A0 l0.length bB, (body_Put.v0 ar bp bq br bs bt bu bv aS bw ay az aA aB aC aD aE aF aG aH aI aJ aK)] 80 (by simp) [(0, .slice A0 l0.length bB), (1, (body_Put.v0 ar bp bq br bs bt bu bv aS bw ay az aA aB aC aD aE aF aG aH aI aJ aK))] (by simp)
 have ee := Below.refl w.heap.size w
 refine wp_seq_k (fun K1 ek => ?_)
 refine reg_seq (I := I1_ w) (ps := [IsB (body_Put.c1 ar bp bq br bs bt bu bv aS bw ay az aA aB aC aD aE aF aG aH aI aJ aK) 28 w.heap.size, IsV (.slice none 0 0), VB false]) (by kernel_rfl) ?_ ?_ rfl hS ee ?_ ?_
 ·exact bs1
 ·exact .cons (Stays.b _ _ _) (.v (.v (.nil)))
 ·refine .on rfl (fun a w hS hI hp => does_var (x_box rfl (congrArg Value.cells (hS.get 1 rfl))) (hI).size) ?_
  iterate 2 refine .on rfl (fun a w hS hI hp => does_val (x_assign rfl (rfl)) rfl) ?_
  exact .nil
 clear hS
 intro fd w3 hS eG hp
 replace hS := (hS.nil).cons (hS.get 0 rfl)
 obtain ⟨g4, dt, c6, ag⟩ := (show IsB _ 28 _ (sl _ 3) _ from hp 0 (by decide))
 have hS := hS.cons dt
 clear hp dt
 refine ek _ _ ?_
 refine wp_seq_k (fun K5 eY => ?_)
 refine wp_seq_k (fun K6 eq => ?_)
 refine reg_seq (I := I2_ w w3) (ps := [IsV ((body_Put.v0 ar bp bq br bs bt bu bv aS bw ay az aA aB aC aD aE aF aG aH aI aJ aK)), VB t7, VB (!t7)]) (by kernel_rfl) ?_ ?_ rfl hS ⟨eG, (bR w3)⟩ ?_ ?_
 ·exact bs2
 ·exact .v (.v (.v (.nil)))
 ·refine .on rfl (fun a w hS hI hp => does_loadrow rfl (hS.get 0 rfl) (((hI.2).block g4 (blk_lt ag)).trans ag) Try.underlying28 rfl (by kernel_rfl) rfl) ?_
  refine .on rfl (fun a w hS hI hp => does_call (by kernel_rfl) (ar1 (hp.V 0 rfl rfl)) ((body_Check.calls (w := _) (h := eW)).mono fun _ _ h => ⟨_, h.1, h.2, rfl⟩)) ?_
  refine .on rfl (fun a w hS hI hp => does_val (x_not rfl (hp.V 1 rfl rfl)) rfl) ?_
  exact .nil
 clear hS
 intro fr w9 hS dy hp
 have dw : sl _ 9 = .bool (!t7) := hp 2 (by decide)
 have hS := hS.cons dw
 clear hp dw
 refine eq _ _ ?_
 refine wp_cond_false ((hS.get 0 rfl).trans (bF (congrArg (!·) c1))) ?_
 refine wp_skip ?_
 refine eY _ _ ?_
 refine wp_seq_k (fun e8 dB => ?_)
 refine reg_seq (I := I3_ w w3 w9) (ps := [IsV (.slice A0 l0.length bB), IsV (.slice A0 l0.length bB), VI (l0.length : Int), IsV (.slice A0 l0.length bB), VI (l0.length : Int), IsV (.slice A0 l0.length l0.length), IsV (.slice A0 l0.length l0.length)]) (by kernel_rfl) ?_ ?_ rfl hS ⟨dy.1, dy.2, (bR w9)⟩ ?_ ?_
 ·exact bs3
 ·exact .v (.v (.v (.v (.v (.v (.v (.nil)))))))
 ·refine .ms 2 rfl rfl rfl ?_
  refine .ms 2 rfl rfl rfl ?_
  refine .on rfl (fun a w hS hI hp => does_val (x_len (e := 5) rfl (by kernel_rfl) (hp.V 1 rfl rfl)) rfl) ?_
  refine .ms 2 rfl rfl rfl ?_
  refine .on rfl (fun a w hS hI hp => does_val (x_len (e := 5) rfl (by kernel_rfl) (hp.V 3 rfl rfl)) rfl) ?_
  refine .on rfl (fun a w hS hI hp => does_val (x_cutcap (e := 5) (n := l0.length) (c := bB) (j := (l0.length : Int)) (k := (l0.length : Int)) rfl (by kernel_rfl) (by kernel_rfl) (hp.V 0 rfl rfl) (hp.V 2 rfl rfl) (hp.V 4 rfl rfl) (Int.natCast_nonneg _) (Int.le_refl _) (Int.ofNat_le.2 HC0)) rfl) ?_
  refine .asg 5 rfl rfl rfl ?_
  exact .nil
 clear hS
 intro e2 dz hS bY hp
 replace hS := (hS.nil).cons (hS.get 1 rfl)
 have e0 : sl _ 6 = .slice A0 l0.length l0.length := hp 6 (by decide)
 have hS := hS.cons e0
 clear hp e0
 refine dB _ _ ?_
 refine wp_seq_k (fun e9 e4 => ?_)
 have J1 : ∀ (ef : Act) (bX : World) (aq bK bL bM bN bO bP bQ bS ax ao a2 a3 a4 a5 a6 a7 a8 a9 ba bb bc bd : Int) (ai : Nat) (bA : List Int) (b6 : Option Addr) (ce : Nat), body_Put.j1 k aq bK bL bM bN bO bP bQ bS ax ao a2 a3 a4 a5 a6 a7 a8 a9 ba bb bc bd bA = some (r1, r2) → St 80 [(3, .pointer (some ⟨ai, 0, none⟩)), (6, .slice b6 bA.length ce)] ef → Below w.heap.size w bX → w.heap.size ≤ ai → bX.heap[ai]? = some (.cells (body_Put.c1 aq bK bL bM bN bO bP bQ bS ax ao a2 a3 a4 a5 a6 a7 a8 a9 ba bb bc bd) 28 (0, 0)) → bA.length ≤ ce → Kd.C (Kd.int .u8) bX b6 bA.length bA → e9 ef bX := by
  intro ef bX aq bK bL bM bN bO bP bQ bS ax ao a2 a3 a4 a5 a6 a7 a8 a9 ba bb bc bd ai bA b6 ce H hS cX cj ad dO ds
  unfold body_Put.j1 at H
  (try dsimp only at H)
  refine e4 _ _ ?_
  refine wp_seq_k (fun eS el => ?_)
  have J2 : ∀ (eg : Act) (af : World) (ab cK cL cM cN cO cP cQ cR cS ci be bf aP aQ aR bg bh bi bj bk bl bm : Int) (ac : Nat) (au : List Int) (bn : Option Addr) (bo : Nat), body_Put.j2 k ab cK cL cM cN cO cP cQ cR cS ci be bf aP aQ aR bg bh bi bj bk bl bm au = some (r1, r2) → St 80 [(3, .pointer (some ⟨ac, 0, none⟩)), (6, .slice bn au.length bo)] eg → Below w.heap.size w af → w.heap.size ≤ ac → af.heap[ac]? = some (.cells (body_Put.c1 ab cK cL cM cN cO cP cQ cR cS ci be bf aP aQ aR bg bh bi bj bk bl bm) 28 (0, 0)) → au.length ≤ bo → Kd.C (Kd.int .u8) af bn au.length au → eS eg af := by
   intro eg af ab cK cL cM cN cO cP cQ cR cS ci be bf aP aQ aR bg bh bi bj bk bl bm ac au bn bo H hS bU eZ aa cv cf
   unfold body_Put.j2 at H
   (try dsimp only at H)
   refine el _ _ ?_
   refine wp_seq_k (fun eU em => ?_)
   have J3 : ∀ (eh : Act) (cZ : World) (aX : List Int) (aY : Option Addr) (aZ : Nat), body_Put.j3 k aX = some (r1, r2) → St 80 [(6, .slice aY aX.length aZ)] eh → Below w.heap.size w cZ → aX.length ≤ aZ → Kd.C (Kd.int .u8) cZ aY aX.length aX → eU eh cZ := by
    intro eh cZ aX aY aZ H hS dQ eV ey
    unfold body_Put.j3 at H
    (try dsimp only at H)
    simp only [Option.some.injEq, Prod.mk.injEq] at H
    obtain ⟨rfl, rfl⟩ := H
    refine em _ _ ?_
    refine wp_seq_k (fun fB ep => ?_)
    refine reg_seq (I := I2_ w cZ) (ps := [IsV (.slice aY aX.length aZ), IsV (.slice aY aX.length aZ), VB true]) (by kernel_rfl) ?_ ?_ rfl hS ⟨dQ, (bR cZ)⟩ ?_ ?_
    ·exact bs2
    ·exact .v (.v (.v (.nil)))
    ·refine .ms 0 rfl rfl rfl ?_
     refine .asg 0 rfl rfl rfl ?_
     refine .on rfl (fun a w hS hI hp => does_val (x_assign rfl (rfl)) rfl) ?_
     exact .nil
    clear hS
    intro fq fG hS dx hp
    replace hS := hS.nil
    have du : sl _ 4 = .slice aY aX.length aZ := hp 1 (by decide)
    have dv : sl _ 5 = .bool true := hp 2 (by decide)
    have hS := hS.cons du
    have hS := hS.cons dv
    clear hp du dv
    refine ep _ _ ?_
    refine wp_ret ?_
    (try simp only [Exit.then, Exit.inBlock, Exit.jump, Exit.noGoto])
    exact bodyPost_ret (v := .tuple #[.slice aY aX.length aZ, .bool true]) (results_list (rs := [.tmp 4, .tmp 5]) rfl (by simp) (Vals.at (hS.get 1 rfl) (Vals.at (hS.get 0 rfl) .nil))) hS.nodef ⟨.slice aY aX.length aZ, rfl, ⟨_, _, rfl, eV, Kd.C_below ey dx.2⟩, dx.1⟩
   by_cases c2 : ab = 2
   ·rw [if_pos c2] at H
    obtain ⟨aM, d3, H⟩ := Option.bind_eq_some_iff.mp H
    refine wp_seq_k (fun c0 aT => ?_)
    refine reg_seq (I := I2_ w af) (ps := [VP ac 0, VI ab]) (by kernel_rfl) ?_ ?_ rfl hS ⟨bU, (bR af)⟩ ?_ ?_
    ·exact bs2
    ·exact .v (.v (.nil))
    ·refine .on rfl (fun a w hS hI hp => does_val (x_fieldE (b := 0) rfl (hS.get 0 rfl) Try.underlying28 rfl rfl (by kernel_rfl)) rfl) ?_
     refine .on rfl (fun a w hS hI hp => does_val (x_load1 (d := .int .i64) rfl (hp.V 0 rfl rfl) (by kernel_rfl) rfl ((blk_cell (((hI.2).block ac (blk_lt aa)).trans aa) 0).trans rfl)) rfl) ?_
     exact .nil
    clear hS
    intro cz ap hS al hp
    have aV : sl _ 32 = .int .i64 ab := hp 1 (by decide)
    have hS := hS.cons aV
    clear hp aV
    refine aT _ _ ?_
    refine wp_block ?_
    refine wp_seq_k (fun c5 aU => ?_)
    refine reg_seq (I := I3_ w af ap) (ps := [VB (decide (ab = 2)), VB (decide (ab = 2))]) (by kernel_rfl) ?_ ?_ rfl hS ⟨al.1, al.2, (bR ap)⟩ ?_ ?_
    ·exact bs3
    ·exact .v (.v (.nil))
    ·refine .on rfl (fun a w hS hI hp => does_val (x_bin rfl (hS.get 0 rfl) (rfl) (b_eql _ _ _ _ _ _)) rfl) ?_
     refine .asg 0 rfl rfl rfl ?_
     exact .nil
    clear hS
    intro cA ak hS am hp
    have aW : sl _ 33 = .bool (decide (ab = 2)) := hp 1 (by decide)
    have hS := hS.cons aW
    clear hp aW
    refine aU _ _ ?_
    refine wp_cond_true ((hS.get 0 rfl).trans (bT (decide_eq_true c2))) ?_
    refine reg_seq_tail 3 (I := I3_ w af ak) (ps := [IsV (.slice bn au.length bo), IsV (.agg #[.int .u64 0, .int .i64 0]), IsR (Kd.int .u8) 5 ak.heap.size aM]) (by kernel_rfl) ?_ ?_ rfl hS ⟨am.1, am.2.1, (bR ak)⟩ ?_ ?_
    ·exact bs3
    ·exact .v (.v (.cons (Stays.r _ _ _ _) (.nil)))
    ·refine .ms 3 rfl rfl rfl ?_
     refine .on rfl (fun a w hS hI hp => does_val (x_build (vs := []) rfl (by rw [Array.toList_map]; exact (show [] = _ from rfl)) (by kernel_rfl)) rfl) ?_
     refine .on rfl (fun a w hS hI hp => does_call (by kernel_rfl) (ar2 (hp.V 0 rfl rfl) (hp.V 1 rfl rfl)) ((ident_Put.calls _ _ au 0 0 aM _ (Kd.C_below cf hI.2.1) cv d3).mono fun _ _ h => h.elim fun v0 h => ⟨v0, h.1, h.2.2, Kd.R_lower h.2.1 hI.2.2.size⟩)) ?_
     exact .nil
    clear hS
    intro cB ae hS ah hp
    replace hS := (hS.nil).cons (hS.get 3 rfl)
    obtain ⟨b0, b8, dF, eA, es⟩ := Kd.R_reads (show Kd.R (Kd.int .u8) 5 ae ak.heap.size (fun _ => True) (sl _ 37) aM from hp 2 (by decide))
    have ft : Kd.R (Kd.int .u8) 5 ae ak.heap.size (fun _ => True) (.slice b0 aM.length b8) aM := dF ▸ (hp 2 (by decide))
    have hS := hS.cons dF
    clear hp dF
    show wpList _ _ _ [_] _ _
    refine list_step rfl (R := fun v w' => Below _ _ w' ∧ (IsV (.slice b0 aM.length b8)) v w') (does_val (x_assign rfl (hS.get 0 rfl)) rfl) ?_
    rintro eI fD ⟨hb, he⟩
    have dk := below_step ah.1 hb
    have eP := below_step ah.2.1 hb
    have dS := below_step ah.2.2 hb
    have cl := below_step (bR ae) hb
    obtain rfl : eI = .slice b0 aM.length b8 := he
    replace hS := (hS.nil).cons (hS.get 0 rfl)
    refine hS.next (v := .slice b0 aM.length b8) (d := 6) rfl (by decide) (by rfl) ?_
    clear hS
    intro fe hS
    refine wpList_nil ?_
    replace hS := (hS.nil).cons (hS.get 0 rfl)
    (try simp only [Exit.then, Exit.inBlock])
    exact J3 _ _ aM b0 b8 H hS dk eA (Kd.C_below es cl)
   rw [if_neg c2] at H
   by_cases c3 : ab = 11
   ·rw [if_pos c3] at H
    obtain ⟨c7, d4, H⟩ := Option.bind_eq_some_iff.mp H
    obtain ⟨c8, d5, H⟩ := Option.bind_eq_some_iff.mp H
    obtain ⟨av, d6, H⟩ := Option.bind_eq_some_iff.mp H
    obtain ⟨da, d9, H⟩ := Option.bind_eq_some_iff.mp H
    obtain ⟨aj, cy, H⟩ := Option.bind_eq_some_iff.mp H
    obtain ⟨db, eb, H⟩ := Option.bind_eq_some_iff.mp H
    obtain ⟨dc, ec, H⟩ := Option.bind_eq_some_iff.mp H
    obtain ⟨aO, ed, H⟩ := Option.bind_eq_some_iff.mp H
    refine wp_seq_k (fun c0 aT => ?_)
    refine reg_seq (I := I2_ w af) (ps := [VP ac 0, VI ab]) (by kernel_rfl) ?_ ?_ rfl hS ⟨bU, (bR af)⟩ ?_ ?_
    ·exact bs2
    ·exact .v (.v (.nil))
    ·refine .on rfl (fun a w hS hI hp => does_val (x_fieldE (b := 0) rfl (hS.get 0 rfl) Try.underlying28 rfl rfl (by kernel_rfl)) rfl) ?_
     refine .on rfl (fun a w hS hI hp => does_val (x_load1 (d := .int .i64) rfl (hp.V 0 rfl rfl) (by kernel_rfl) rfl ((blk_cell (((hI.2).block ac (blk_lt aa)).trans aa) 0).trans rfl)) rfl) ?_
     exact .nil
    clear hS
    intro cz ap hS al hp
    have aV : sl _ 32 = .int .i64 ab := hp 1 (by decide)
    have hS := hS.cons aV
    clear hp aV
    refine aT _ _ ?_
    refine wp_block ?_
    refine wp_seq_k (fun c5 aU => ?_)
    refine reg_seq (I := I3_ w af ap) (ps := [VB (decide (ab = 2)), VB (decide (ab = 2))]) (by kernel_rfl) ?_ ?_ rfl hS ⟨al.1, al.2, (bR ap)⟩ ?_ ?_
    ·exact bs3
    ·exact .v (.v (.nil))
    ·refine .on rfl (fun a w hS hI hp => does_val (x_bin rfl (hS.get 0 rfl) (rfl) (b_eql _ _ _ _ _ _)) rfl) ?_
     refine .asg 0 rfl rfl rfl ?_
     exact .nil
    clear hS
    intro cA ak hS am hp
    have aW : sl _ 33 = .bool (decide (ab = 2)) := hp 1 (by decide)
    have hS := hS.cons aW
    clear hp aW
    refine aU _ _ ?_
    refine wp_cond_false ((hS.get 0 rfl).trans (bF (decide_eq_false c2))) ?_
    refine wp_seq_k (fun dM bC => ?_)
    refine reg_seq (I := I3_ w af ak) (ps := [VB (decide (ab = 11)), VB (decide (ab = 11))]) (by kernel_rfl) ?_ ?_ rfl hS ⟨am.1, am.2.1, (bR ak)⟩ ?_ ?_
    ·exact bs3
    ·exact .v (.v (.nil))
    ·refine .on rfl (fun a w hS hI hp => does_val (x_bin rfl (hS.get 1 rfl) (rfl) (b_eql _ _ _ _ _ _)) rfl) ?_
     refine .asg 0 rfl rfl rfl ?_
     exact .nil
    clear hS
    intro cB ae hS ah hp
    replace hS := (((hS.nil).cons (hS.get 3 rfl)).cons (hS.get 2 rfl)).cons (hS.get 1 rfl)
    have bE : sl _ 38 = .bool (decide (ab = 11)) := hp 1 (by decide)
    have hS := hS.cons bE
    clear hp bE
    refine bC _ _ ?_
    refine wp_cond_true ((hS.get 0 rfl).trans (bT (decide_eq_true c3))) ?_
    refine wp_seq_k (fun dN bD => ?_)
    refine reg_any_tail 8 [0, 0, 2, 7, 15, 0, 32, 127, 255] (I := I3_ w af ae) (ps := [IsV (.slice bn au.length bo), VP ac 11, VI be, IsR (Kd.int .u8) 5 ae.heap.size c7, IsR (Kd.int .u8) 5 ae.heap.size c8, VP ac 12, VI bf, IsR (Kd.int .u8) 5 ae.heap.size av]) (by kernel_rfl) (by kernel_rfl) (by kernel_rfl) (by decide) ?_ ?_ rfl hS ⟨ah.1, ah.2.1, (bR ae)⟩ ?_ ?_
    ·exact bs3
    ·exact .v (.v (.v (.cons (Stays.r _ _ _ _) (.cons (Stays.r _ _ _ _) (.v (.v (.cons (Stays.r _ _ _ _) (.nil))))))))
    ·refine .ms 3 rfl rfl rfl ?_
     refine .on rfl (fun a w hS hI hp => does_val (x_fieldE (b := 0) rfl (hS.get 2 rfl) Try.underlying28 rfl rfl (by kernel_rfl)) rfl) ?_
     refine .on rfl (fun a w hS hI hp => does_val (x_load1 (d := .int .i64) rfl (hp.V 1 rfl rfl) (by kernel_rfl) rfl ((blk_cell (((hI.2.1).block ac (blk_lt aa)).trans aa) 11).trans rfl)) rfl) ?_
     refine .on rfl (fun a w hS hI hp => does_call (by kernel_rfl) (ar3 (hp.V 0 rfl rfl) (hp.V 2 rfl rfl) (rfl)) ((octets_Put.calls _ _ au be 2 c7 _ (Kd.C_below cf hI.2.1) cv d4).mono fun _ _ h => h.elim fun v0 h => ⟨v0, h.1, h.2.2, Kd.R_lower h.2.1 hI.2.2.size⟩)) ?_
     refine .on rfl (fun a w hS hI hp => (IsC.of_r (hp.V 3 rfl rfl)).elim fun A_ h_ => h_.elim fun c_ h_ => h_.elim fun hv_ h_ => h_.elim fun hl_ hc_ => does_call (by kernel_rfl) (ar3 (hv_) (rfl) (rfl)) ((octets_Put.calls _ _ c7 0 1 c8 _ hc_ hl_ d5).mono fun _ _ h => h.elim fun v0 h => ⟨v0, h.1, h.2.2, Kd.R_lower h.2.1 hI.2.2.size⟩)) ?_
     refine .on rfl (fun a w hS hI hp => does_val (x_fieldE (b := 0) rfl (hS.get 2 rfl) Try.underlying28 rfl rfl (by kernel_rfl)) rfl) ?_
     refine .on rfl (fun a w hS hI hp => does_val (x_load1 (d := .int .i64) rfl (hp.V 5 rfl rfl) (by kernel_rfl) rfl ((blk_cell (((hI.2.1).block ac (blk_lt aa)).trans aa) 12).trans rfl)) rfl) ?_
     refine .on rfl (fun a w hS hI hp => (IsC.of_r (hp.V 4 rfl rfl)).elim fun A_ h_ => h_.elim fun c_ h_ => h_.elim fun hv_ h_ => h_.elim fun hl_ hc_ => does_call (by kernel_rfl) (ar3 (hv_) (hp.V 6 rfl rfl) (rfl)) ((octets_Put.calls _ _ c8 bf 1 av _ hc_ hl_ d6).mono fun _ _ h => h.elim fun v0 h => ⟨v0, h.1, h.2.2, Kd.R_lower h.2.1 hI.2.2.size⟩)) ?_
     exact .nil
    clear hS
    intro ff cw hS cH hp
    replace hS := ((hS.nil).cons (hS.get 3 rfl)).cons (hS.get 2 rfl)
    obtain ⟨b1, b9, dG, eB, et⟩ := Kd.R_reads (show Kd.R (Kd.int .u8) 5 cw ae.heap.size (fun _ => True) (sl _ 47) av from hp 7 (by decide))
    have fu : Kd.R (Kd.int .u8) 5 cw ae.heap.size (fun _ => True) (.slice b1 av.length b9) av := dG ▸ (hp 7 (by decide))
    have hS := hS.cons dG
    clear hp dG
    show wpList _ _ _ [_] _ _
    refine list_step rfl (R := fun v w' => Below _ _ w' ∧ (IsV (.slice b1 av.length b9)) v w') (does_val (x_assign rfl (hS.get 0 rfl)) rfl) ?_
    rintro eJ an ⟨hb, he⟩
    have dl := below_step cH.1 hb
    have cU := below_step cH.2.1 hb
    have cm := below_step cH.2.2 hb
    have cn := below_step (bR cw) hb
    obtain rfl : eJ = .slice b1 av.length b9 := he
    replace hS := ((hS.nil).cons (hS.get 1 rfl)).cons (hS.get 0 rfl)
    refine hS.next (v := .slice b1 av.length b9) (d := 6) rfl (by decide) (by rfl) ?_
    clear hS
    intro fh hS
    refine wpList_nil ?_
    refine bD _ _ ?_
    refine wp_seq_k (fun fA eo => ?_)
    refine reg_any_tail 7 [0, 0, 2, 7, 0, 16, 63, 127] (I := I5_ w af ae cw an) (ps := [IsV (.slice b1 av.length b9), VP ac 13, IsV (.agg #[.int .i64 aP, .int .i64 aQ, .int .i64 aR]), IsR (Kd.int .u8) 5 an.heap.size da, VP ac 16, VI bg, IsR (Kd.int .u8) 5 an.heap.size aj]) (by kernel_rfl) (by kernel_rfl) (by kernel_rfl) (by decide) ?_ ?_ rfl hS ⟨dl, cU, cm, cn, (bR an)⟩ ?_ ?_
    ·exact bs5
    ·exact .v (.v (.v (.cons (Stays.r _ _ _ _) (.v (.v (.cons (Stays.r _ _ _ _) (.nil)))))))
    ·refine .ms 0 rfl rfl rfl ?_
     refine .on rfl (fun a w hS hI hp => does_val (x_fieldE (b := 0) rfl (hS.get 2 rfl) Try.underlying28 rfl rfl (by kernel_rfl)) rfl) ?_
     refine .on rfl (fun a w hS hI hp => does_loadmid (cs := [.int .i64 aP, .int .i64 aQ, .int .i64 aR]) rfl (hp.V 1 rfl rfl) (((hI.2.1).block ac (blk_lt aa)).trans aa) (by kernel_rfl) Try.underlying26 rfl (by kernel_rfl) rfl) ?_
     refine .on rfl (fun a w hS hI hp => does_call (by kernel_rfl) (ar2 (hp.V 0 rfl rfl) (hp.V 2 rfl rfl)) ((quality_Put.calls _ _ av aP aQ aR da _ (Kd.C_below et hI.2.2.2.1) eB d9).mono fun _ _ h => h.elim fun v0 h => ⟨v0, h.1, h.2.2, Kd.R_lower h.2.1 hI.2.2.2.2.size⟩)) ?_
     refine .on rfl (fun a w hS hI hp => does_val (x_fieldE (b := 0) rfl (hS.get 2 rfl) Try.underlying28 rfl rfl (by kernel_rfl)) rfl) ?_
     refine .on rfl (fun a w hS hI hp => does_val (x_load1 (d := .int .i64) rfl (hp.V 4 rfl rfl) (by kernel_rfl) rfl ((blk_cell (((hI.2.1).block ac (blk_lt aa)).trans aa) 16).trans rfl)) rfl) ?_
     refine .on rfl (fun a w hS hI hp => (IsC.of_r (hp.V 3 rfl rfl)).elim fun A_ h_ => h_.elim fun c_ h_ => h_.elim fun hv_ h_ => h_.elim fun hl_ hc_ => does_call (by kernel_rfl) (ar3 (hv_) (hp.V 5 rfl rfl) (rfl)) ((octets_Put.calls _ _ da bg 1 aj _ hc_ hl_ cy).mono fun _ _ h => h.elim fun v0 h => ⟨v0, h.1, h.2.2, Kd.R_lower h.2.1 hI.2.2.2.2.size⟩)) ?_
     exact .nil
    clear hS
    intro fj cx hS bH hp
    replace hS := ((hS.nil).cons (hS.get 2 rfl)).cons (hS.get 0 rfl)
    obtain ⟨b3, cb, dH, eD, ev⟩ := Kd.R_reads (show Kd.R (Kd.int .u8) 5 cx an.heap.size (fun _ => True) (sl _ 54) aj from hp 6 (by decide))
    have fw : Kd.R (Kd.int .u8) 5 cx an.heap.size (fun _ => True) (.slice b3 aj.length cb) aj := dH ▸ (hp 6 (by decide))
    have hS := hS.cons dH
    clear hp dH
    show wpList _ _ _ [_] _ _
    refine list_step rfl (R := fun v w' => Below _ _ w' ∧ (IsV (.slice b3 aj.length cb)) v w') (does_val (x_assign rfl (hS.get 0 rfl)) rfl) ?_
    rintro eL bz ⟨hb, he⟩
    have dn := below_step bH.1 hb
    have cW := below_step bH.2.1 hb
    have dT := below_step bH.2.2.1 hb
    have dU := below_step bH.2.2.2.1 hb
    have cq := below_step bH.2.2.2.2 hb
    have cr := below_step (bR cx) hb
    obtain rfl : eL = .slice b3 aj.length cb := he
    replace hS := ((hS.nil).cons (hS.get 2 rfl)).cons (hS.get 0 rfl)
    refine hS.next (v := .slice b3 aj.length cb) (d := 6) rfl (by decide) (by rfl) ?_
    clear hS
    intro fl hS
    refine wpList_nil ?_
    refine eo _ _ ?_
    refine reg_any_tail 10 [0, 0, 2, 7, 0, 16, 63, 0, 128, 511, 1023] (I := I5_ w af an cx bz) (ps := [IsV (.slice b3 aj.length cb), VP ac 17, IsV (.int .u64 bh), IsR (Kd.int .u8) 5 bz.heap.size db, VP ac 18, VI bi, IsR (Kd.int .u8) 5 bz.heap.size dc, VP ac 19, VI bj, IsR (Kd.int .u8) 5 bz.heap.size aO]) (by kernel_rfl) (by kernel_rfl) (by kernel_rfl) (by decide) ?_ ?_ rfl hS ⟨dn, cW, cq, cr, (bR bz)⟩ ?_ ?_
    ·exact bs5
    ·exact .v (.v (.v (.cons (Stays.r _ _ _ _) (.v (.v (.cons (Stays.r _ _ _ _) (.v (.v (.cons (Stays.r _ _ _ _) (.nil))))))))))
    ·refine .ms 0 rfl rfl rfl ?_
     refine .on rfl (fun a w hS hI hp => does_val (x_fieldE (b := 0) rfl (hS.get 2 rfl) Try.underlying28 rfl rfl (by kernel_rfl)) rfl) ?_
     refine .on rfl (fun a w hS hI hp => does_val (x_load1 (d := .int .u64) rfl (hp.V 1 rfl rfl) (by kernel_rfl) rfl ((blk_cell (((hI.2.1).block ac (blk_lt aa)).trans aa) 17).trans rfl)) rfl) ?_
     refine .on rfl (fun a w hS hI hp => does_call (by kernel_rfl) (ar2 (hp.V 0 rfl rfl) (hp.V 2 rfl rfl)) ((octets_PutId.calls _ _ aj bh db _ (Kd.C_below ev hI.2.2.2.1) eD eb).mono fun _ _ h => h.elim fun v0 h => ⟨v0, h.1, h.2.2, Kd.R_lower h.2.1 hI.2.2.2.2.size⟩)) ?_
     refine .on rfl (fun a w hS hI hp => does_val (x_fieldE (b := 0) rfl (hS.get 2 rfl) Try.underlying28 rfl rfl (by kernel_rfl)) rfl) ?_
     refine .on rfl (fun a w hS hI hp => does_val (x_load1 (d := .int .i64) rfl (hp.V 4 rfl rfl) (by kernel_rfl) rfl ((blk_cell (((hI.2.1).block ac (blk_lt aa)).trans aa) 18).trans rfl)) rfl) ?_
     refine .on rfl (fun a w hS hI hp => (IsC.of_r (hp.V 3 rfl rfl)).elim fun A_ h_ => h_.elim fun c_ h_ => h_.elim fun hv_ h_ => h_.elim fun hl_ hc_ => does_call (by kernel_rfl) (ar3 (hv_) (hp.V 5 rfl rfl) (rfl)) ((octets_Put.calls _ _ db bi 2 dc _ hc_ hl_ ec).mono fun _ _ h => h.elim fun v0 h => ⟨v0, h.1, h.2.2, Kd.R_lower h.2.1 hI.2.2.2.2.size⟩)) ?_
     refine .on rfl (fun a w hS hI hp => does_val (x_fieldE (b := 0) rfl (hS.get 2 rfl) Try.underlying28 rfl rfl (by kernel_rfl)) rfl) ?_
     refine .on rfl (fun a w hS hI hp => does_val (x_load1 (d := .int .i64) rfl (hp.V 7 rfl rfl) (by kernel_rfl) rfl ((blk_cell (((hI.2.1).block ac (blk_lt aa)).trans aa) 19).trans rfl)) rfl) ?_
     refine .on rfl (fun a w hS hI hp => (IsC.of_r (hp.V 6 rfl rfl)).elim fun A_ h_ => h_.elim fun c_ h_ => h_.elim fun hv_ h_ => h_.elim fun hl_ hc_ => does_call (by kernel_rfl) (ar3 (hv_) (hp.V 8 rfl rfl) (rfl)) ((octets_Put.calls _ _ dc bj 1 aO _ hc_ hl_ ed).mono fun _ _ h => h.elim fun v0 h => ⟨v0, h.1, h.2.2, Kd.R_lower h.2.1 hI.2.2.2.2.size⟩)) ?_
     exact .nil
    clear hS
    intro fo df hS bJ hp
    replace hS := (hS.nil).cons (hS.get 0 rfl)
    obtain ⟨b5, cd, dI, eF, ex⟩ := Kd.R_reads (show Kd.R (Kd.int .u8) 5 df bz.heap.size (fun _ => True) (sl _ 64) aO from hp 9 (by decide))
    have fy : Kd.R (Kd.int .u8) 5 df bz.heap.size (fun _ => True) (.slice b5 aO.length cd) aO := dI ▸ (hp 9 (by decide))
    have hS := hS.cons dI
    clear hp dI
    show wpList _ _ _ [_] _ _
    refine list_step rfl (R := fun v w' => Below _ _ w' ∧ (IsV (.slice b5 aO.length cd)) v w') (does_val (x_assign rfl (hS.get 0 rfl)) rfl) ?_
    rintro eN fF ⟨hb, he⟩
    have dq := below_step bJ.1 hb
    have eR := below_step bJ.2.1 hb
    have dY := below_step bJ.2.2.1 hb
    have dZ := below_step bJ.2.2.2.1 hb
    have d0 := below_step bJ.2.2.2.2 hb
    have cu := below_step (bR df) hb
    obtain rfl : eN = .slice b5 aO.length cd := he
    replace hS := (hS.nil).cons (hS.get 0 rfl)
    refine hS.next (v := .slice b5 aO.length cd) (d := 6) rfl (by decide) (by rfl) ?_
    clear hS
    intro fp hS
    refine wpList_nil ?_
    replace hS := (hS.nil).cons (hS.get 0 rfl)
    (try simp only [Exit.then, Exit.inBlock])
    exact J3 _ _ aO b5 cd H hS dq eF (Kd.C_below ex cu)
   rw [if_neg c3] at H
   by_cases c4 : ab = 13
   rotate_left
   ·rw [if_neg c4] at H
    refine wp_seq_k (fun c0 aT => ?_)
    refine reg_seq (I := I2_ w af) (ps := [VP ac 0, VI ab]) (by kernel_rfl) ?_ ?_ rfl hS ⟨bU, (bR af)⟩ ?_ ?_
    ·exact bs2
    ·exact .v (.v (.nil))
    ·refine .on rfl (fun a w hS hI hp => does_val (x_fieldE (b := 0) rfl (hS.get 0 rfl) Try.underlying28 rfl rfl (by kernel_rfl)) rfl) ?_
     refine .on rfl (fun a w hS hI hp => does_val (x_load1 (d := .int .i64) rfl (hp.V 0 rfl rfl) (by kernel_rfl) rfl ((blk_cell (((hI.2).block ac (blk_lt aa)).trans aa) 0).trans rfl)) rfl) ?_
     exact .nil
    clear hS
    intro cz ap hS al hp
    have aV : sl _ 32 = .int .i64 ab := hp 1 (by decide)
    have hS := hS.cons aV
    clear hp aV
    refine aT _ _ ?_
    refine wp_block ?_
    refine wp_seq_k (fun c5 aU => ?_)
    refine reg_seq (I := I3_ w af ap) (ps := [VB (decide (ab = 2)), VB (decide (ab = 2))]) (by kernel_rfl) ?_ ?_ rfl hS ⟨al.1, al.2, (bR ap)⟩ ?_ ?_
    ·exact bs3
    ·exact .v (.v (.nil))
    ·refine .on rfl (fun a w hS hI hp => does_val (x_bin rfl (hS.get 0 rfl) (rfl) (b_eql _ _ _ _ _ _)) rfl) ?_
     refine .asg 0 rfl rfl rfl ?_
     exact .nil
    clear hS
    intro cA ak hS am hp
    have aW : sl _ 33 = .bool (decide (ab = 2)) := hp 1 (by decide)
    have hS := hS.cons aW
    clear hp aW
    refine aU _ _ ?_
    refine wp_cond_false ((hS.get 0 rfl).trans (bF (decide_eq_false c2))) ?_
    refine wp_seq_k (fun dM bC => ?_)
    refine reg_seq (I := I3_ w af ak) (ps := [VB (decide (ab = 11)), VB (decide (ab = 11))]) (by kernel_rfl) ?_ ?_ rfl hS ⟨am.1, am.2.1, (bR ak)⟩ ?_ ?_
    ·exact bs3
    ·exact .v (.v (.nil))
    ·refine .on rfl (fun a w hS hI hp => does_val (x_bin rfl (hS.get 1 rfl) (rfl) (b_eql _ _ _ _ _ _)) rfl) ?_
     refine .asg 0 rfl rfl rfl ?_
     exact .nil
    clear hS
    intro cB ae hS ah hp
    replace hS := (((hS.nil).cons (hS.get 3 rfl)).cons (hS.get 2 rfl)).cons (hS.get 1 rfl)
    have bE : sl _ 38 = .bool (decide (ab = 11)) := hp 1 (by decide)
    have hS := hS.cons bE
    clear hp bE
    refine bC _ _ ?_
    refine wp_cond_false ((hS.get 0 rfl).trans (bF (decide_eq_false c3))) ?_
    refine wp_seq_k (fun dN bD => ?_)
    refine reg_seq (I := I3_ w af ae) (ps := [VB (decide (ab = 13)), VB (decide (ab = 13))]) (by kernel_rfl) ?_ ?_ rfl hS ⟨ah.1, ah.2.1, (bR ae)⟩ ?_ ?_
    ·exact bs3
    ·exact .v (.v (.nil))
    ·refine .on rfl (fun a w hS hI hp => does_val (x_bin rfl (hS.get 1 rfl) (rfl) (b_eql _ _ _ _ _ _)) rfl) ?_
     refine .asg 0 rfl rfl rfl ?_
     exact .nil
    clear hS
    intro ej a0 hS bG hp
    replace hS := ((hS.nil).cons (hS.get 3 rfl)).cons (hS.get 2 rfl)
    have cF : sl _ 65 = .bool (decide (ab = 13)) := hp 1 (by decide)
    have hS := hS.cons cF
    clear hp cF
    refine bD _ _ ?_
    refine wp_cond_false ((hS.get 0 rfl).trans (bF (decide_eq_false c4))) ?_
    refine wp_skip ?_
    replace hS := (hS.nil).cons (hS.get 2 rfl)
    (try simp only [Exit.then, Exit.inBlock])
    exact J3 _ _ au bn bo H hS bG.1 cv (Kd.C_below cf bG.2.1)
   rw [if_pos c4] at H
   obtain ⟨c9, d7, H⟩ := Option.bind_eq_some_iff.mp H
   obtain ⟨aw, d8, H⟩ := Option.bind_eq_some_iff.mp H
   obtain ⟨aj, cy, H⟩ := Option.bind_eq_some_iff.mp H
   obtain ⟨aN, ea, H⟩ := Option.bind_eq_some_iff.mp H
   refine wp_seq_k (fun c0 aT => ?_)
   refine reg_seq (I := I2_ w af) (ps := [VP ac 0, VI ab]) (by kernel_rfl) ?_ ?_ rfl hS ⟨bU, (bR af)⟩ ?_ ?_
   ·exact bs2
   ·exact .v (.v (.nil))
   ·refine .on rfl (fun a w hS hI hp => does_val (x_fieldE (b := 0) rfl (hS.get 0 rfl) Try.underlying28 rfl rfl (by kernel_rfl)) rfl) ?_
    refine .on rfl (fun a w hS hI hp => does_val (x_load1 (d := .int .i64) rfl (hp.V 0 rfl rfl) (by kernel_rfl) rfl ((blk_cell (((hI.2).block ac (blk_lt aa)).trans aa) 0).trans rfl)) rfl) ?_
    exact .nil
   clear hS
   intro cz ap hS al hp
   have aV : sl _ 32 = .int .i64 ab := hp 1 (by decide)
   have hS := hS.cons aV
   clear hp aV
   refine aT _ _ ?_
   refine wp_block ?_
   refine wp_seq_k (fun c5 aU => ?_)
   refine reg_seq (I := I3_ w af ap) (ps := [VB (decide (ab = 2)), VB (decide (ab = 2))]) (by kernel_rfl) ?_ ?_ rfl hS ⟨al.1, al.2, (bR ap)⟩ ?_ ?_
   ·exact bs3
   ·exact .v (.v (.nil))
   ·refine .on rfl (fun a w hS hI hp => does_val (x_bin rfl (hS.get 0 rfl) (rfl) (b_eql _ _ _ _ _ _)) rfl) ?_
    refine .asg 0 rfl rfl rfl ?_
    exact .nil
   clear hS
   intro cA ak hS am hp
   have aW : sl _ 33 = .bool (decide (ab = 2)) := hp 1 (by decide)
   have hS := hS.cons aW
   clear hp aW
   refine aU _ _ ?_
   refine wp_cond_false ((hS.get 0 rfl).trans (bF (decide_eq_false c2))) ?_
   refine wp_seq_k (fun dM bC => ?_)
   refine reg_seq (I := I3_ w af ak) (ps := [VB (decide (ab = 11)), VB (decide (ab = 11))]) (by kernel_rfl) ?_ ?_ rfl hS ⟨am.1, am.2.1, (bR ak)⟩ ?_ ?_
   ·exact bs3
   ·exact .v (.v (.nil))
   ·refine .on rfl (fun a w hS hI hp => does_val (x_bin rfl (hS.get 1 rfl) (rfl) (b_eql _ _ _ _ _ _)) rfl) ?_
    refine .asg 0 rfl rfl rfl ?_
    exact .nil
   clear hS
   intro cB ae hS ah hp
   replace hS := (((hS.nil).cons (hS.get 3 rfl)).cons (hS.get 2 rfl)).cons (hS.get 1 rfl)
   have bE : sl _ 38 = .bool (decide (ab = 11)) := hp 1 (by decide)
   have hS := hS.cons bE
   clear hp bE
   refine bC _ _ ?_
   refine wp_cond_false ((hS.get 0 rfl).trans (bF (decide_eq_false c3))) ?_
   refine wp_seq_k (fun dN bD => ?_)
   refine reg_seq (I := I3_ w af ae) (ps := [VB (decide (ab = 13)), VB (decide (ab = 13))]) (by kernel_rfl) ?_ ?_ rfl hS ⟨ah.1, ah.2.1, (bR ae)⟩ ?_ ?_
   ·exact bs3
   ·exact .v (.v (.nil))
   ·refine .on rfl (fun a w hS hI hp => does_val (x_bin rfl (hS.get 1 rfl) (rfl) (b_eql _ _ _ _ _ _)) rfl) ?_
    refine .asg 0 rfl rfl rfl ?_
    exact .nil
   clear hS
   intro ej a0 hS bG hp
   replace hS := ((hS.nil).cons (hS.get 3 rfl)).cons (hS.get 2 rfl)
   have cF : sl _ 65 = .bool (decide (ab = 13)) := hp 1 (by decide)
   have hS := hS.cons cF
   clear hp cF
   refine bD _ _ ?_
   refine wp_cond_true ((hS.get 0 rfl).trans (bT (decide_eq_true c4))) ?_
   refine wp_seq_k (fun fz en => ?_)
   refine reg_any_tail 7 [0, 0, 2, 7, 0, 16, 63, 127] (I := I3_ w af a0) (ps := [IsV (.slice bn au.length bo), VP ac 20, VI bk, IsR (Kd.int .u8) 5 a0.heap.size c9, VP ac 21, VI bl, IsR (Kd.int .u8) 5 a0.heap.size aw]) (by kernel_rfl) (by kernel_rfl) (by kernel_rfl) (by decide) ?_ ?_ rfl hS ⟨bG.1, bG.2.1, (bR a0)⟩ ?_ ?_
   ·exact bs3
   ·exact .v (.v (.v (.cons (Stays.r _ _ _ _) (.v (.v (.cons (Stays.r _ _ _ _) (.nil)))))))
   ·refine .ms 2 rfl rfl rfl ?_
    refine .on rfl (fun a w hS hI hp => does_val (x_fieldE (b := 0) rfl (hS.get 1 rfl) Try.underlying28 rfl rfl (by kernel_rfl)) rfl) ?_
    refine .on rfl (fun a w hS hI hp => does_val (x_load1 (d := .int .i64) rfl (hp.V 1 rfl rfl) (by kernel_rfl) rfl ((blk_cell (((hI.2.1).block ac (blk_lt aa)).trans aa) 20).trans rfl)) rfl) ?_
    refine .on rfl (fun a w hS hI hp => does_call (by kernel_rfl) (ar3 (hp.V 0 rfl rfl) (hp.V 2 rfl rfl) (rfl)) ((octets_Put.calls _ _ au bk 1 c9 _ (Kd.C_below cf hI.2.1) cv d7).mono fun _ _ h => h.elim fun v0 h => ⟨v0, h.1, h.2.2, Kd.R_lower h.2.1 hI.2.2.size⟩)) ?_
    refine .on rfl (fun a w hS hI hp => does_val (x_fieldE (b := 0) rfl (hS.get 1 rfl) Try.underlying28 rfl rfl (by kernel_rfl)) rfl) ?_
    refine .on rfl (fun a w hS hI hp => does_val (x_load1 (d := .int .i64) rfl (hp.V 4 rfl rfl) (by kernel_rfl) rfl ((blk_cell (((hI.2.1).block ac (blk_lt aa)).trans aa) 21).trans rfl)) rfl) ?_
    refine .on rfl (fun a w hS hI hp => (IsC.of_r (hp.V 3 rfl rfl)).elim fun A_ h_ => h_.elim fun c_ h_ => h_.elim fun hv_ h_ => h_.elim fun hl_ hc_ => does_call (by kernel_rfl) (ar3 (hv_) (hp.V 5 rfl rfl) (rfl)) ((octets_Put.calls _ _ c9 bl 1 aw _ hc_ hl_ d8).mono fun _ _ h => h.elim fun v0 h => ⟨v0, h.1, h.2.2, Kd.R_lower h.2.1 hI.2.2.size⟩)) ?_
    exact .nil
   clear hS
   intro fg an hS cI hp
   replace hS := ((hS.nil).cons (hS.get 2 rfl)).cons (hS.get 1 rfl)
   obtain ⟨b2, ca, dJ, eC, eu⟩ := Kd.R_reads (show Kd.R (Kd.int .u8) 5 an a0.heap.size (fun _ => True) (sl _ 73) aw from hp 6 (by decide))
   have fv : Kd.R (Kd.int .u8) 5 an a0.heap.size (fun _ => True) (.slice b2 aw.length ca) aw := dJ ▸ (hp 6 (by decide))
   have hS := hS.cons dJ
   clear hp dJ
   show wpList _ _ _ [_] _ _
   refine list_step rfl (R := fun v w' => Below _ _ w' ∧ (IsV (.slice b2 aw.length ca)) v w') (does_val (x_assign rfl (hS.get 0 rfl)) rfl) ?_
   rintro eK bW ⟨hb, he⟩
   have dm := below_step cI.1 hb
   have cV := below_step cI.2.1 hb
   have co := below_step cI.2.2 hb
   have cp := below_step (bR an) hb
   obtain rfl : eK = .slice b2 aw.length ca := he
   replace hS := ((hS.nil).cons (hS.get 1 rfl)).cons (hS.get 0 rfl)
   refine hS.next (v := .slice b2 aw.length ca) (d := 6) rfl (by decide) (by rfl) ?_
   clear hS
   intro fi hS
   refine wpList_nil ?_
   refine en _ _ ?_
   refine reg_seq_tail 5 (I := I5_ w af a0 an bW) (ps := [IsV (.slice b2 aw.length ca), VP ac 22, VI bm, IsR (Kd.int .u8) 5 bW.heap.size aj, IsR (Kd.int .u8) 5 bW.heap.size aN]) (by kernel_rfl) ?_ ?_ rfl hS ⟨dm, cV, co, cp, (bR bW)⟩ ?_ ?_
   ·exact bs5
   ·exact .v (.v (.v (.cons (Stays.r _ _ _ _) (.cons (Stays.r _ _ _ _) (.nil)))))
   ·refine .ms 0 rfl rfl rfl ?_
    refine .on rfl (fun a w hS hI hp => does_val (x_fieldE (b := 0) rfl (hS.get 2 rfl) Try.underlying28 rfl rfl (by kernel_rfl)) rfl) ?_
    refine .on rfl (fun a w hS hI hp => does_val (x_load1 (d := .int .i64) rfl (hp.V 1 rfl rfl) (by kernel_rfl) rfl ((blk_cell (((hI.2.1).block ac (blk_lt aa)).trans aa) 22).trans rfl)) rfl) ?_
    refine .on rfl (fun a w hS hI hp => does_call (by kernel_rfl) (ar3 (hp.V 0 rfl rfl) (hp.V 2 rfl rfl) (rfl)) ((octets_Put.calls _ _ aw bm 1 aj _ (Kd.C_below eu hI.2.2.2.1) eC cy).mono fun _ _ h => h.elim fun v0 h => ⟨v0, h.1, h.2.2, Kd.R_lower h.2.1 hI.2.2.2.2.size⟩)) ?_
    refine .on rfl (fun a w hS hI hp => (IsC.of_r (hp.V 3 rfl rfl)).elim fun A_ h_ => h_.elim fun c_ h_ => h_.elim fun hv_ h_ => h_.elim fun hl_ hc_ => does_call (by kernel_rfl) (ar3 (hv_) (rfl) (rfl)) ((octets_Put.calls _ _ aj 0 1 aN _ hc_ hl_ ea).mono fun _ _ h => h.elim fun v0 h => ⟨v0, h.1, h.2.2, Kd.R_lower h.2.1 hI.2.2.2.2.size⟩)) ?_
    exact .nil
   clear hS
   intro fk de hS bI hp
   replace hS := (hS.nil).cons (hS.get 0 rfl)
   obtain ⟨b4, cc, dK, eE, ew⟩ := Kd.R_reads (show Kd.R (Kd.int .u8) 5 de bW.heap.size (fun _ => True) (sl _ 78) aN from hp 4 (by decide))
   have fx : Kd.R (Kd.int .u8) 5 de bW.heap.size (fun _ => True) (.slice b4 aN.length cc) aN := dK ▸ (hp 4 (by decide))
   have hS := hS.cons dK
   clear hp dK
   show wpList _ _ _ [_] _ _
   refine list_step rfl (R := fun v w' => Below _ _ w' ∧ (IsV (.slice b4 aN.length cc)) v w') (does_val (x_assign rfl (hS.get 0 rfl)) rfl) ?_
   rintro eM fE ⟨hb, he⟩
   have dp := below_step bI.1 hb
   have eQ := below_step bI.2.1 hb
   have dV := below_step bI.2.2.1 hb
   have dW := below_step bI.2.2.2.1 hb
   have dX := below_step bI.2.2.2.2 hb
   have ct := below_step (bR de) hb
   obtain rfl : eM = .slice b4 aN.length cc := he
   replace hS := (hS.nil).cons (hS.get 0 rfl)
   refine hS.next (v := .slice b4 aN.length cc) (d := 6) rfl (by decide) (by rfl) ?_
   clear hS
   intro fm hS
   refine wpList_nil ?_
   replace hS := (hS.nil).cons (hS.get 0 rfl)
   (try simp only [Exit.then, Exit.inBlock])
   exact J3 _ _ aN b4 cc H hS dp eE (Kd.C_below ew ct)
  obtain ⟨bx, dh, H⟩ := Option.bind_eq_some_iff.mp H
  by_cases c2 : bx = true
  rotate_left
  ·rw [if_neg c2] at H
   refine wp_seq_k (fun eT cC => ?_)
   refine reg_seq (I := I2_ w bX) (ps := [VP ai 0, VI aq, VB bx]) (by kernel_rfl) ?_ ?_ rfl hS ⟨cX, (bR bX)⟩ ?_ ?_
   ·exact bs2
   ·exact .v (.v (.v (.nil)))
   ·refine .on rfl (fun a w hS hI hp => does_val (x_fieldE (b := 0) rfl (hS.get 0 rfl) Try.underlying28 rfl rfl (by kernel_rfl)) rfl) ?_
    refine .on rfl (fun a w hS hI hp => does_val (x_load1 (d := .int .i64) rfl (hp.V 0 rfl rfl) (by kernel_rfl) rfl ((blk_cell (((hI.2).block ai (blk_lt ad)).trans ad) 0).trans rfl)) rfl) ?_
    refine .on rfl (fun a w hS hI hp => does_call (by kernel_rfl) (ar1 (hp.V 1 rfl rfl)) ((body_targeted.calls aq bx _  dh).mono fun _ _ h => ⟨_, h.1, h.2.below, rfl⟩)) ?_
    exact .nil
   clear hS
   intro ei bV hS a1 hp
   have cE : sl _ 26 = .bool bx := hp 2 (by decide)
   have hS := hS.cons cE
   clear hp cE
   refine cC _ _ ?_
   refine wp_cond_false ((hS.get 0 rfl).trans (bF (Bool.eq_false_iff.2 c2))) ?_
   refine wp_skip ?_
   replace hS := ((hS.nil).cons (hS.get 2 rfl)).cons (hS.get 1 rfl)
   (try simp only [Exit.then, Exit.inBlock])
   exact J2 _ _ aq bK bL bM bN bO bP bQ bS ax ao a2 a3 a4 a5 a6 a7 a8 a9 ba bb bc bd ai bA b6 ce H hS a1.1 cj ((a1.2.block ai (blk_lt ad)).trans ad) dO (Kd.C_below ds a1.2)
  rw [if_pos c2] at H
  obtain ⟨aL, d1, H⟩ := Option.bind_eq_some_iff.mp H
  refine wp_seq_k (fun eT cC => ?_)
  refine reg_seq (I := I2_ w bX) (ps := [VP ai 0, VI aq, VB bx]) (by kernel_rfl) ?_ ?_ rfl hS ⟨cX, (bR bX)⟩ ?_ ?_
  ·exact bs2
  ·exact .v (.v (.v (.nil)))
  ·refine .on rfl (fun a w hS hI hp => does_val (x_fieldE (b := 0) rfl (hS.get 0 rfl) Try.underlying28 rfl rfl (by kernel_rfl)) rfl) ?_
   refine .on rfl (fun a w hS hI hp => does_val (x_load1 (d := .int .i64) rfl (hp.V 0 rfl rfl) (by kernel_rfl) rfl ((blk_cell (((hI.2).block ai (blk_lt ad)).trans ad) 0).trans rfl)) rfl) ?_
   refine .on rfl (fun a w hS hI hp => does_call (by kernel_rfl) (ar1 (hp.V 1 rfl rfl)) ((body_targeted.calls aq bx _  dh).mono fun _ _ h => ⟨_, h.1, h.2.below, rfl⟩)) ?_
   exact .nil
  clear hS
  intro ei bV hS a1 hp
  have cE : sl _ 26 = .bool bx := hp 2 (by decide)
  have hS := hS.cons cE
  clear hp cE
  refine cC _ _ ?_
  refine wp_cond_true ((hS.get 0 rfl).trans (bT c2)) ?_
  refine reg_seq_tail 4 (I := I3_ w bX bV) (ps := [IsV (.slice b6 bA.length ce), VP ai 9, IsV (.agg #[.int .u64 ax, .int .i64 ao]), IsR (Kd.int .u8) 5 bV.heap.size aL]) (by kernel_rfl) ?_ ?_ rfl hS ⟨a1.1, a1.2, (bR bV)⟩ ?_ ?_
  ·exact bs3
  ·exact .v (.v (.v (.cons (Stays.r _ _ _ _) (.nil))))
  ·refine .ms 2 rfl rfl rfl ?_
   refine .on rfl (fun a w hS hI hp => does_val (x_fieldE (b := 0) rfl (hS.get 1 rfl) Try.underlying28 rfl rfl (by kernel_rfl)) rfl) ?_
   refine .on rfl (fun a w hS hI hp => does_loadmid (cs := [.int .u64 ax, .int .i64 ao]) rfl (hp.V 1 rfl rfl) (((hI.2.1).block ai (blk_lt ad)).trans ad) (by kernel_rfl) Try.underlying24 rfl (by kernel_rfl) rfl) ?_
   refine .on rfl (fun a w hS hI hp => does_call (by kernel_rfl) (ar2 (hp.V 0 rfl rfl) (hp.V 2 rfl rfl)) ((ident_Put.calls _ _ bA ax ao aL _ (Kd.C_below ds hI.2.1) dO d1).mono fun _ _ h => h.elim fun v0 h => ⟨v0, h.1, h.2.2, Kd.R_lower h.2.1 hI.2.2.size⟩)) ?_
   exact .nil
  clear hS
  intro fb dd hS cG hp
  replace hS := ((hS.nil).cons (hS.get 2 rfl)).cons (hS.get 1 rfl)
  obtain ⟨bZ, b7, dE, ez, er⟩ := Kd.R_reads (show Kd.R (Kd.int .u8) 5 dd bV.heap.size (fun _ => True) (sl _ 30) aL from hp 3 (by decide))
  have fs : Kd.R (Kd.int .u8) 5 dd bV.heap.size (fun _ => True) (.slice bZ aL.length b7) aL := dE ▸ (hp 3 (by decide))
  have hS := hS.cons dE
  clear hp dE
  show wpList _ _ _ [_] _ _
  refine list_step rfl (R := fun v w' => Below _ _ w' ∧ (IsV (.slice bZ aL.length b7)) v w') (does_val (x_assign rfl (hS.get 0 rfl)) rfl) ?_
  rintro eH fC ⟨hb, he⟩
  have dj := below_step cG.1 hb
  have cT := below_step cG.2.1 hb
  have dR := below_step cG.2.2 hb
  have ck := below_step (bR dd) hb
  obtain rfl : eH = .slice bZ aL.length b7 := he
  replace hS := ((hS.nil).cons (hS.get 1 rfl)).cons (hS.get 0 rfl)
  refine hS.next (v := .slice bZ aL.length b7) (d := 6) rfl (by decide) (by rfl) ?_
  clear hS
  intro fc hS
  refine wpList_nil ?_
  replace hS := ((hS.nil).cons (hS.get 0 rfl)).cons (hS.get 2 rfl)
  (try simp only [Exit.then, Exit.inBlock])
  exact J2 _ _ aq bK bL bM bN bO bP bQ bS ax ao a2 a3 a4 a5 a6 a7 a8 a9 ba bb bc bd ai aL bZ b7 H hS dj cj ((cT.block ai (blk_lt ad)).trans ad) ez (Kd.C_below er ck)
 obtain ⟨cJ, d2, H⟩ := Option.bind_eq_some_iff.mp H
 by_cases c2 : cJ = true
 rotate_left
 ·rw [if_neg c2] at H
  refine wp_seq_k (fun fa dC => ?_)
  refine reg_seq (I := I3_ w w3 dz) (ps := [VP g4 0, VI ar, VB cJ]) (by kernel_rfl) ?_ ?_ rfl hS ⟨bY.1, bY.2.1, (bR dz)⟩ ?_ ?_
  ·exact bs3
  ·exact .v (.v (.v (.nil)))
  ·refine .on rfl (fun a w hS hI hp => does_val (x_fieldE (b := 0) rfl (hS.get 1 rfl) Try.underlying28 rfl rfl (by kernel_rfl)) rfl) ?_
   refine .on rfl (fun a w hS hI hp => does_val (x_load1 (d := .int .i64) rfl (hp.V 0 rfl rfl) (by kernel_rfl) rfl ((blk_cell (((hI.2.1).block g4 (blk_lt ag)).trans ag) 0).trans rfl)) rfl) ?_
   refine .on rfl (fun a w hS hI hp => does_call (by kernel_rfl) (ar1 (hp.V 1 rfl rfl)) ((body_stamped.calls ar cJ _  d2).mono fun _ _ h => ⟨_, h.1, h.2.below, rfl⟩)) ?_
   exact .nil
  clear hS
  intro e3 cY hS ch hp
  have cD : sl _ 19 = .bool cJ := hp 2 (by decide)
  have hS := hS.cons cD
  clear hp cD
  refine dC _ _ ?_
  refine wp_cond_false ((hS.get 0 rfl).trans (bF (Bool.eq_false_iff.2 c2))) ?_
  refine wp_skip ?_
  replace hS := ((hS.nil).cons (hS.get 1 rfl)).cons (hS.get 2 rfl)
  (try simp only [Exit.then, Exit.inBlock])
  exact J1 _ _ ar bp bq br bs bt bu bv aS bw ay az aA aB aC aD aE aF aG aH aI aJ aK g4 l0 A0 l0.length H hS ch.1 c6 ((ch.2.1.block g4 (blk_lt ag)).trans ag) (Nat.le_refl _) (Kd.C_below HR0 ch.1)
 rw [if_pos c2] at H
 obtain ⟨cg, e1, H⟩ := Option.bind_eq_some_iff.mp H
 refine wp_seq_k (fun fa dC => ?_)
 refine reg_seq (I := I3_ w w3 dz) (ps := [VP g4 0, VI ar, VB cJ]) (by kernel_rfl) ?_ ?_ rfl hS ⟨bY.1, bY.2.1, (bR dz)⟩ ?_ ?_
 ·exact bs3
 ·exact .v (.v (.v (.nil)))
 ·refine .on rfl (fun a w hS hI hp => does_val (x_fieldE (b := 0) rfl (hS.get 1 rfl) Try.underlying28 rfl rfl (by kernel_rfl)) rfl) ?_
  refine .on rfl (fun a w hS hI hp => does_val (x_load1 (d := .int .i64) rfl (hp.V 0 rfl rfl) (by kernel_rfl) rfl ((blk_cell (((hI.2.1).block g4 (blk_lt ag)).trans ag) 0).trans rfl)) rfl) ?_
  refine .on rfl (fun a w hS hI hp => does_call (by kernel_rfl) (ar1 (hp.V 1 rfl rfl)) ((body_stamped.calls ar cJ _  d2).mono fun _ _ h => ⟨_, h.1, h.2.below, rfl⟩)) ?_
  exact .nil
 clear hS
 intro e3 cY hS ch hp
 have cD : sl _ 19 = .bool cJ := hp 2 (by decide)
 have hS := hS.cons cD
 clear hp cD
 refine dC _ _ ?_
 refine wp_cond_true ((hS.get 0 rfl).trans (bT c2)) ?_
 refine reg_seq_tail 4 (I := I3_ w w3 cY) (ps := [IsV (.slice A0 l0.length l0.length), VP g4 8, VI aS, IsR (Kd.int .u8) 5 cY.heap.size cg]) (by kernel_rfl) ?_ ?_ rfl hS ⟨ch.1, ch.2.1, (bR cY)⟩ ?_ ?_
 ·exact bs3
 ·exact .v (.v (.v (.cons (Stays.r _ _ _ _) (.nil))))
 ·refine .ms 1 rfl rfl rfl ?_
  refine .on rfl (fun a w hS hI hp => does_val (x_fieldE (b := 0) rfl (hS.get 2 rfl) Try.underlying28 rfl rfl (by kernel_rfl)) rfl) ?_
  refine .on rfl (fun a w hS hI hp => does_val (x_load1 (d := .int .i64) rfl (hp.V 1 rfl rfl) (by kernel_rfl) rfl ((blk_cell (((hI.2.1).block g4 (blk_lt ag)).trans ag) 8).trans rfl)) rfl) ?_
  refine .on rfl (fun a w hS hI hp => does_call (by kernel_rfl) (ar2 (hp.V 0 rfl rfl) (hp.V 2 rfl rfl)) ((stamp_Put.calls _ _ l0 aS cg _ (Kd.C_below HR0 hI.1) (Nat.le_refl _) e1).mono fun _ _ h => h.elim fun v0 h => ⟨v0, h.1, h.2.2, Kd.R_lower h.2.1 hI.2.2.size⟩)) ?_
  exact .nil
 clear hS
 intro fH eO hS dL hp
 replace hS := ((hS.nil).cons (hS.get 2 rfl)).cons (hS.get 1 rfl)
 obtain ⟨dg, di, dD, e6, e5⟩ := Kd.R_reads (show Kd.R (Kd.int .u8) 5 eO cY.heap.size (fun _ => True) (sl _ 23) cg from hp 3 (by decide))
 have fJ : Kd.R (Kd.int .u8) 5 eO cY.heap.size (fun _ => True) (.slice dg cg.length di) cg := dD ▸ (hp 3 (by decide))
 have hS := hS.cons dD
 clear hp dD
 show wpList _ _ _ [_] _ _
 refine list_step rfl (R := fun v w' => Below _ _ w' ∧ (IsV (.slice dg cg.length di)) v w') (does_val (x_assign rfl (hS.get 0 rfl)) rfl) ?_
 rintro e7 fK ⟨hb, he⟩
 have dP := below_step dL.1 hb
 have dA := below_step dL.2.1 hb
 have eX := below_step dL.2.2 hb
 have dr := below_step (bR eO) hb
 obtain rfl : e7 = .slice dg cg.length di := he
 replace hS := ((hS.nil).cons (hS.get 2 rfl)).cons (hS.get 0 rfl)
 refine hS.next (v := .slice dg cg.length di) (d := 6) rfl (by decide) (by rfl) ?_
 clear hS
 intro fI hS
 refine wpList_nil ?_
 replace hS := ((hS.nil).cons (hS.get 0 rfl)).cons (hS.get 2 rfl)
 (try simp only [Exit.then, Exit.inBlock])
 exact J1 _ _ ar bp bq br bs bt bu bv aS bw ay az aA aB aC aD aE aF aG aH aI aJ aK g4 cg dg di H hS dP c6 ((dA.block g4 (blk_lt ag)).trans ag) e6 (Kd.C_below e5 dr)
def tlv_in.f (a0 : Int) (a1 : Int) (a2 : Int) : Option (Bool) := if a0 ≥ a1 then (some (decide (a0 ≤ a2))) else (some false)
set_option maxHeartbeats 8000000 in
set_option maxRecDepth 100000 in
theorem tlv_in.calls (a0 : Int) (a1 : Int) (a2 : Int) (r : Bool) (w : World) (h : tlv_in.f a0 a1 a2 = some r) :
    Calls Try.prog 79 #[.int .i64 a0, .int .i64 a1, .int .i64 a2] w fun e w' => e = .returned (.bool r) ∧ Drawn0 w w' := by
  have H : (if a0 ≥ a1 then (some (decide (a0 ≤ a2))) else (some false)) = some r := h
  clear h
  by_cases c4 : a0 ≥ a1
  · rw [if_pos c4] at H
    have c4b0 : decide (a1 ≤ a0) = true := decide_eq_true c4
    clear c4
    obtain rfl := Option.some.inj H
    go_enter Try.func79, Try.ntmps79
    go_wp2
    all_goals
      go_ret
      exact ⟨by first | rfl | (simp; done) | (simp [*]; done), by repeat (first | exact Drawn0.refl _ | apply Drawn0.step)⟩
  · rw [if_neg c4] at H
    have c4b0 : decide (a1 ≤ a0) = false := decide_eq_false c4
    clear c4
    obtain rfl := Option.some.inj H
    go_enter Try.func79, Try.ntmps79
    go_wp2
    all_goals
      go_ret
      exact ⟨by first | rfl | (simp; done) | (simp [*]; done), by repeat (first | exact Drawn0.refl _ | apply Drawn0.step)⟩
def tlv_Check.f (a0_0 : Int) (a0_1 : ByteArray) : Option (Bool) := (tlv_in.f a0_0 0 65535).bind fun t138 => (if t138 = true then (if ((a0_1.size : Int) % 2) = 0 then (some (decide ((a0_1.size : Int) ≤ 400))) else (some false)) else (some false))
set_option maxHeartbeats 8000000 in
set_option maxRecDepth 100000 in
theorem tlv_Check.calls (a0_0 : Int) (a0_1 : ByteArray) (r : Bool) (w : World) (h : tlv_Check.f a0_0 a0_1 = some r) :
    Calls Try.prog 42 #[.agg #[.int .i64 a0_0, .string a0_1]] w fun e w' => e = .returned (.bool r) ∧ Below w.heap.size w w' := by
  have hu43 := Try.underlying43
  have HB := Aside0.mk (Below.refl w.heap.size w)
  have H : ((tlv_in.f a0_0 0 65535).bind fun t138 => (if t138 = true then (if ((a0_1.size : Int) % 2) = 0 then (some (decide ((a0_1.size : Int) ≤ 400))) else (some false)) else (some false))) = some r := h
  clear h
  replace H := Option.bind_eq_some_iff.mp H
  obtain ⟨t138, A20, H⟩ := H
  replace H : (if t138 = true then (if ((a0_1.size : Int) % 2) = 0 then (some (decide ((a0_1.size : Int) ≤ 400))) else (some false)) else (some false)) = some r := H
  have A2 := Aside0.mk A20
  clear A20
  by_cases c3 : t138 = true
  · subst c3
    have H1 : (if ((a0_1.size : Int) % 2) = 0 then (some (decide ((a0_1.size : Int) ≤ 400))) else (some false)) = some r := by rw [if_pos rfl] at H; exact H
    clear H
    have H := H1
    clear H1
    by_cases c4 : ((a0_1.size : Int) % 2) = 0
    · rw [if_pos c4] at H
      have c4b0 : (((a0_1.size : Int) % 2) == 0) = true := beq_iff_eq.mpr c4
      have c4b1 : (((a0_1.size : Int) % 2) != 0) = false := bne_eq_false_iff_eq.mpr c4
      clear c4
      obtain rfl := Option.some.inj H
      go_enter Try.func42, Try.ntmps42
      go_wp2_with (first | ((with_reducible refine gate_dst (N := 1) rfl ?_); (try (refine gate_guard (by rfl) ?_; dsimp only)); refine box_event ?hg (N := 1) ?hd (cs := #[.int .i64 a0_0, .string a0_1]) (t := 43) ?hr ?_; (case hd => rfl); (case hg => rfl); (case hr => first | (go_simp; done) | (go_simp; rfl)); intro gb137 hg w5 hbox hb; have n0_ := Aside0.mk (below_step (by repeat (first | (with_reducible first | exact HB.out | apply below_alloc | apply pw_below_drewN | apply below_drew1) | exact HB.out)) hb); have n1_ := Aside0.mk (hbox); have n2_ := Aside0.mk ((by rw [hg]; exact (below_size (by repeat (first | (with_reducible first | exact HB.out | apply below_alloc | apply pw_below_drewN | apply below_drew1) | exact HB.out))) : w.heap.size ≤ gb137)); have n3_ := Aside0.mk ((by rw [hg]; exact (below_size (by repeat (first | (with_reducible first | exact HB.out | apply below_alloc | apply pw_below_drewN | apply below_drew1) | exact HB.out))) : w.heap.size ≤ gb137)); clear HB; have HB := n0_; have BK137 := n1_; have GW137 := n2_; have GE137 := n3_; clear n0_ n1_ n2_ n3_; clear hb hbox hg; have hcz6_0 : w5.cell? ⟨gb137, 0, none⟩ = some (.int .i64 a0_0) := (blk_cell BK137.out 0).trans rfl; have hcz6_1 : w5.cell? ⟨gb137, 1, none⟩ = some (.string a0_1) := (blk_cell BK137.out 1).trans rfl; have hfz6_0 := blk_frozen BK137.out 0; have hfz6_1 := blk_frozen BK137.out 1) | ((with_reducible refine gate_callee (f := 79) rfl ?_); refine goesL_ (some 5) rfl rfl Try.func79 (by kernel_rfl) rfl #[.int .i64 a0_0, .int .i64 0, .int .i64 65535] rfl (by (try simp only [List.map_toArray, List.map_cons, List.map_nil]); first | done | rfl | (simp only [List.length_drop, List.length_take]; rfl)) ?_; (with_reducible refine (tlv_in.calls a0_0 0 65535 true _ A2.out).mono ?_); rintro e w' ⟨rfl, ⟨nd, rfl⟩⟩; refine ⟨_, rfl, ?_⟩))
      all_goals
        go_ret
        exact ⟨by first | rfl | (simp [errW_none, errW_some] <;> rfl) | (simp [*, errW_none, errW_some] <;> rfl), by repeat (first | (with_reducible first | exact HB.out | apply below_alloc | apply pw_below_drewN | apply below_drew1 | refine below_set ?_ GE137.out) | exact HB.out)⟩
    · rw [if_neg c4] at H
      have c4b0 : (((a0_1.size : Int) % 2) == 0) = false := beq_eq_false_iff_ne.mpr c4
      have c4b1 : (((a0_1.size : Int) % 2) != 0) = true := bne_iff_ne.mpr c4
      obtain rfl := Option.some.inj H
      go_enter Try.func42, Try.ntmps42
      go_wp2_with (first | ((with_reducible refine gate_dst (N := 1) rfl ?_); (try (refine gate_guard (by rfl) ?_; dsimp only)); refine box_event ?hg (N := 1) ?hd (cs := #[.int .i64 a0_0, .string a0_1]) (t := 43) ?hr ?_; (case hd => rfl); (case hg => rfl); (case hr => first | (go_simp; done) | (go_simp; rfl)); intro gb137 hg w7 hbox hb; have n0_ := Aside0.mk (below_step (by repeat (first | (with_reducible first | exact HB.out | apply below_alloc | apply pw_below_drewN | apply below_drew1) | exact HB.out)) hb); have n1_ := Aside0.mk (hbox); have n2_ := Aside0.mk ((by rw [hg]; exact (below_size (by repeat (first | (with_reducible first | exact HB.out | apply below_alloc | apply pw_below_drewN | apply below_drew1) | exact HB.out))) : w.heap.size ≤ gb137)); have n3_ := Aside0.mk ((by rw [hg]; exact (below_size (by repeat (first | (with_reducible first | exact HB.out | apply below_alloc | apply pw_below_drewN | apply below_drew1) | exact HB.out))) : w.heap.size ≤ gb137)); clear HB; have HB := n0_; have BK137 := n1_; have GW137 := n2_; have GE137 := n3_; clear n0_ n1_ n2_ n3_; clear hb hbox hg; have hcz8_0 : w7.cell? ⟨gb137, 0, none⟩ = some (.int .i64 a0_0) := (blk_cell BK137.out 0).trans rfl; have hcz8_1 : w7.cell? ⟨gb137, 1, none⟩ = some (.string a0_1) := (blk_cell BK137.out 1).trans rfl; have hfz8_0 := blk_frozen BK137.out 0; have hfz8_1 := blk_frozen BK137.out 1) | ((with_reducible refine gate_callee (f := 79) rfl ?_); refine goesL_ (some 5) rfl rfl Try.func79 (by kernel_rfl) rfl #[.int .i64 a0_0, .int .i64 0, .int .i64 65535] rfl (by (try simp only [List.map_toArray, List.map_cons, List.map_nil]); first | done | rfl | (simp only [List.length_drop, List.length_take]; rfl)) ?_; (with_reducible refine (tlv_in.calls a0_0 0 65535 true _ A2.out).mono ?_); rintro e w' ⟨rfl, ⟨nd, rfl⟩⟩; refine ⟨_, rfl, ?_⟩))
      all_goals
        go_ret
        exact ⟨by first | rfl | (simp [errW_none, errW_some] <;> rfl) | (simp [*, errW_none, errW_some] <;> rfl), by repeat (first | (with_reducible first | exact HB.out | apply below_alloc | apply pw_below_drewN | apply below_drew1 | refine below_set ?_ GE137.out) | exact HB.out)⟩
  · replace c3 := Bool.eq_false_iff.mpr c3
    subst c3
    have H1 : (some false) = some r := by rw [if_neg (show ¬ (false = true) by decide)] at H; exact H
    clear H
    have H := H1
    clear H1
    obtain rfl := Option.some.inj H
    go_enter Try.func42, Try.ntmps42
    go_wp2_with (first | ((with_reducible refine gate_dst (N := 1) rfl ?_); (try (refine gate_guard (by rfl) ?_; dsimp only)); refine box_event ?hg (N := 1) ?hd (cs := #[.int .i64 a0_0, .string a0_1]) (t := 43) ?hr ?_; (case hd => rfl); (case hg => rfl); (case hr => first | (go_simp; done) | (go_simp; rfl)); intro gb137 hg w9 hbox hb; have n0_ := Aside0.mk (below_step (by repeat (first | (with_reducible first | exact HB.out | apply below_alloc | apply pw_below_drewN | apply below_drew1) | exact HB.out)) hb); have n1_ := Aside0.mk (hbox); have n2_ := Aside0.mk ((by rw [hg]; exact (below_size (by repeat (first | (with_reducible first | exact HB.out | apply below_alloc | apply pw_below_drewN | apply below_drew1) | exact HB.out))) : w.heap.size ≤ gb137)); have n3_ := Aside0.mk ((by rw [hg]; exact (below_size (by repeat (first | (with_reducible first | exact HB.out | apply below_alloc | apply pw_below_drewN | apply below_drew1) | exact HB.out))) : w.heap.size ≤ gb137)); clear HB; have HB := n0_; have BK137 := n1_; have GW137 := n2_; have GE137 := n3_; clear n0_ n1_ n2_ n3_; clear hb hbox hg; have hcz10_0 : w9.cell? ⟨gb137, 0, none⟩ = some (.int .i64 a0_0) := (blk_cell BK137.out 0).trans rfl; have hcz10_1 : w9.cell? ⟨gb137, 1, none⟩ = some (.string a0_1) := (blk_cell BK137.out 1).trans rfl; have hfz10_0 := blk_frozen BK137.out 0; have hfz10_1 := blk_frozen BK137.out 1) | ((with_reducible refine gate_callee (f := 79) rfl ?_); refine goesL_ (some 5) rfl rfl Try.func79 (by kernel_rfl) rfl #[.int .i64 a0_0, .int .i64 0, .int .i64 65535] rfl (by (try simp only [List.map_toArray, List.map_cons, List.map_nil]); first | done | rfl | (simp only [List.length_drop, List.length_take]; rfl)) ?_; (with_reducible refine (tlv_in.calls a0_0 0 65535 false _ A2.out).mono ?_); rintro e w' ⟨rfl, ⟨nd, rfl⟩⟩; refine ⟨_, rfl, ?_⟩))
    all_goals
      go_ret
      exact ⟨by first | rfl | (simp [errW_none, errW_some] <;> rfl) | (simp [*, errW_none, errW_some] <;> rfl), by repeat (first | (with_reducible first | exact HB.out | apply below_alloc | apply pw_below_drewN | apply below_drew1 | refine below_set ?_ GE137.out) | exact HB.out)⟩
end Go.Proofs.Ytiomlbkakiienaa.P
